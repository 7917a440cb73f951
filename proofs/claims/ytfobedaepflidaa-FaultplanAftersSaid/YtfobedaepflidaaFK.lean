/- What readings of this seat's struct types say. -/
import Derived.Test.YtfobedaepflidaaF0
import Derived.Test.YtfobedaepflidaaG
namespace Go.Proofs.Ytfobedaepflidaa.F
open Go.ChangeShapes Go.WideShapes Go.RowKit Go.Proofs.YtfobedaepflidaaW.PrintWords Go.Proofs.Ytfobedaepflidaa.Gate
section
variable {H : Type} {enc : TypeId × Value → H} {w : World} {base : Nat} {spare : Nat → Bool} {held : Bool}
end
end Go.Proofs.Ytfobedaepflidaa.F

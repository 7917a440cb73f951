/- What readings of this seat's struct types say. -/
import Derived.Test.YtminfgfigpiajaaE0
import Derived.Test.YtminfgfigpiajaaG
namespace Go.Proofs.Ytminfgfigpiajaa.E
open Go.ChangeShapes Go.WideShapes Go.RowKit Go.Proofs.YtminfgfigpiajaaW.PrintWords Go.Proofs.Ytminfgfigpiajaa.Gate
section
variable {H : Type} {enc : TypeId × Value → H} {w : World} {base : Nat} {spare : Nat → Bool} {held : Bool}
end
end Go.Proofs.Ytminfgfigpiajaa.E

/- What readings of this seat's struct types say. -/
import Derived.Test.YtminfgfigpiajaaE0
import Derived.Test.YtminfgfigpiajaaG
namespace Go.Proofs.Ytminfgfigpiajaa.E
open Go.ChangeShapes Go.WideShapes Go.RowKit Go.Proofs.YtminfgfigpiajaaW.PrintWords Go.Proofs.Ytminfgfigpiajaa.Gate
section
variable {H : Type} {enc : TypeId × Value → H} {w : World} {base : Nat} {spare : Nat → Bool} {held : Bool}
def W43 (x : S43) : Prop := (Lit.int .i64 x.f0).wf = true ∧ (Lit.int .i64 x.f1).wf = true
theorem o43 (n : Nat) : Opens enc Try.prog w base spare held k43 W43 43 n :=
  opens_iso _ (fun x => (⟨x.1, x.2⟩ : S43)) (fun _ => rfl) (opens_struct Try.underlying43 (by kernel_rfl) (fun m _ => from_cons (by rfl) (by kernel_rfl) (opens_int Try.underlying3 m) (from_last (by rfl) (by kernel_rfl) (opens_int Try.underlying3 m))))
end
end Go.Proofs.Ytminfgfigpiajaa.E

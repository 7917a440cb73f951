/- What readings of this seat's struct types say. -/
import Derived.Test.YtkgknibciclmjaaI0
import Derived.Test.YtkgknibciclmjaaG
namespace Go.Proofs.Ytkgknibciclmjaa.I
open Go.ChangeShapes Go.WideShapes Go.RowKit Go.Proofs.YtkgknibciclmjaaW.PrintWords Go.Proofs.Ytkgknibciclmjaa.Gate
section
variable {H : Type} {enc : TypeId × Value → H} {w : World} {base : Nat} {spare : Nat → Bool} {held : Bool}
def W28 (x : S28) : Prop := (Lit.int .i64 x.f0).wf = true ∧ (Lit.int .i64 x.f1).wf = true
theorem o28 (n : Nat) : Opens enc Try.prog w base spare held k28 W28 28 n :=
  opens_iso _ (fun x => (⟨x.1, x.2⟩ : S28)) (fun _ => rfl) (opens_struct Try.underlying28 (by kernel_rfl) (fun m _ => from_cons (by rfl) (by kernel_rfl) (opens_int Try.underlying3 m) (from_last (by rfl) (by kernel_rfl) (opens_int Try.underlying3 m))))
end
end Go.Proofs.Ytkgknibciclmjaa.I

/- Subtract, by the program: over lists alone. -/
import Derived.Test.YtkgknibciclmjaaIAU
import Derived.Test.YtkgknibciclmjaaIAT
import Derived.Test.YtkgknibciclmjaaI39
set_option linter.unusedSimpArgs false
set_option linter.unusedVariables false
namespace Go.Proofs.Ytkgknibciclmjaa.I
open Go.RowKit Go.Proofs.YtkgknibciclmjaaW.PrintWords Go.Proofs.YtkgknibciclmjaaW.PrintLast

theorem sub_ok (a b : List S28) (va : Val a) (vb : Val b) (la : a.length ≤ 1000) (lb : b.length ≤ 1000) :
    ∃ d, Ev (fun k => interval_Subtract.f k a b) (d, 0) ∧ Val d ∧ (∀ n, mem d n ↔ mem a n ∧ ¬ mem b n) ∧ d.length ≤ a.length * (b.length + 1) := by
  have ends_any (l : List S28) : Ends (fun _ => True) l := fun _ _ => ⟨trivial, trivial⟩
  obtain ⟨d, hd, vd, md, ed, nd⟩ := cut_ok (fun _ => True) a b va vb (ends_any _) (ends_any _) la lb
  have bo := both_ev a b (by unfold maxLen; omega) (by unfold maxLen; omega)
  rw [if_pos ((chk_val a).2 va), (chk_val b).2 vb] at bo
  refine ⟨d, ?_, vd, md, nd⟩
  unfold interval_Subtract.f
  exact Ev.bind bo (Ev.yes rfl (Ev.bind hd (Ev.now _)))
end Go.Proofs.Ytkgknibciclmjaa.I

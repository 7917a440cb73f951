/- Equal lists, short lists, the fixed examples; the statements' own two loops. -/
import Derived.Test.YtkgknibciclmjaaIAC
import Derived.Test.YtkgknibciclmjaaI14
import Derived.Test.YtkgknibciclmjaaI3
import Derived.Test.YtkgknibciclmjaaI17
set_option linter.unusedSimpArgs false
set_option linter.unusedVariables false
set_option maxRecDepth 100000
namespace Go.Proofs.Ytkgknibciclmjaa.I
open Go.RowKit Go.Proofs.YtkgknibciclmjaaW.PrintWords Go.Proofs.YtkgknibciclmjaaW.PrintLast

theorem awake_ev : Ev (fun k => estoverslaw02_awake.f k) true := Ev.of (fun k => estoverslaw02_awake.mono k) (k := 60) (by decide +kernel)
theorem few_ev (a b : List S28) : estoverslaw02_few.f a b = some (decide (a.length ≤ 12) && decide (b.length ≤ 12)) := by
  unfold estoverslaw02_few.f estoversref02_Few.f
  have e (l : List S28) : decide ((l.length : Int) ≤ 12) = decide (l.length ≤ 12) := decide_eq_decide.mpr (by omega)
  simp only [e, Option.bind_some]
  cases decide (a.length ≤ 12) <;> cases decide (b.length ≤ 12) <;> rfl
theorem same_loop (l : List S28) (hl : l.length ≤ maxLen) (post : List S28) : ∀ (pre : List S28), l = pre ++ post → Ev (fun k => estoversref02_Same.l0 k l l (pre.length : Int)) true := by
  unfold maxLen at hl
  induction post with
  | nil =>
    intro pre h
    refine Ev.step (f := fun _ => some true) (fun k => ?_) (Ev.now _)
    simp only [estoversref02_Same.l0]
    rw [if_neg (by rw [h]; simp)]
  | cons x post ih =>
    intro pre h
    have hlen : l.length = pre.length + (post.length + 1) := by rw [h]; simp
    have hw : wrap64 ((pre.length : Int) + 1) = ((pre ++ [x]).length : Int) := by rw [wrap_next (by omega) (by omega)]; simp
    refine Ev.step (fun k => ?_) (ih (pre ++ [x]) (by rw [h]; simp))
    simp only [estoversref02_Same.l0]
    rw [if_pos (by omega), if_pos (by omega), if_pos (by omega), if_neg (by simp), hw]
theorem same_ev (l : List S28) (hl : l.length ≤ maxLen) : Ev (fun k => estoversref02_Same.f k l l) true :=
  Ev.yes rfl (same_loop l hl l [] rfl)
theorem same_of {a b : List S28} (h : a = b) (hl : a.length ≤ maxLen) : Ev (fun k => estoversref02_Same.f k a b) true := h ▸ same_ev a hl
end Go.Proofs.Ytkgknibciclmjaa.I

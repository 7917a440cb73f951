/- The statements' own two loops: is a list valid, is a number in it: over lists alone. -/
import Derived.Test.YtkgknibciclmjaaIAC
import Derived.Test.YtkgknibciclmjaaI35
import Derived.Test.YtkgknibciclmjaaI36
set_option linter.unusedSimpArgs false
set_option linter.unusedVariables false
namespace Go.Proofs.Ytkgknibciclmjaa.I
open Go.RowKit Go.Proofs.YtkgknibciclmjaaW.PrintWords Go.Proofs.YtkgknibciclmjaaW.PrintLast

theorem sound_loop (l : List S28) (hl : l.length ≤ maxLen) (post : List S28) : ∀ (pre : List S28), l = pre ++ post →
    Ev (fun k => estoverslaw02_sound.l0 k l (pre.length : Int)) (decide (chk (prevOf pre) post = 0)) := by
  unfold maxLen at hl
  induction post with
  | nil =>
    intro pre h
    refine Ev.step (f := fun _ => some true) (fun k => ?_) (Ev.now _)
    simp only [estoverslaw02_sound.l0]
    rw [if_neg (by rw [h]; simp)]
  | cons x post ih =>
    intro pre h
    have hlen : l.length = pre.length + (post.length + 1) := by rw [h]; simp
    have hx : rd_T28 l (pre.length : Int) = x := by rw [h]; exact rd_mid pre x post
    have hw : wrap64 ((pre.length : Int) + 1) = ((pre ++ [x]).length : Int) := by rw [wrap_next (by omega) (by omega)]; simp
    have ih' := ih (pre ++ [x]) (by rw [h]; simp)
    rw [prevOf_snoc] at ih'
    refine Ev.next ?_
    simp only [estoverslaw02_sound.l0, hx, hw]
    refine Ev.yes (by omega) (Ev.yes (by omega) ?_)
    by_cases c : x.f0 ≥ x.f1
    · simp only [chk, if_pos c]
      exact Ev.now false
    · simp only [chk, if_neg c]
      rcases prev_cases pre with ⟨hp, he⟩ | ⟨p, y, hp, he⟩
      · rw [he]
        rw [if_neg (by simp)]
        exact Ev.no (by rw [hp]; simp) ih'
      · rw [he]
        have hpl : pre.length = p.length + 1 := by rw [hp]; simp
        have hwp : wrap64 ((pre.length : Int) - 1) = (p.length : Int) := by rw [wrap_prev (by omega) (by omega)]; omega
        have hy : rd_T28 l (p.length : Int) = y := by rw [h, hp]; simp [rd_T28]
        simp only [hwp, hy]
        refine Ev.yes (by omega) (Ev.yes (by omega) (Ev.yes (by omega) ?_))
        by_cases d : x.f0 ≤ y.f1
        · rw [if_pos (by simpa using d)]
          exact Ev.yes d (Ev.now false)
        · rw [if_neg (by simpa using d)]
          exact Ev.no d ih'
theorem sound_ev (l : List S28) (hl : l.length ≤ maxLen) : Ev (fun k => estoverslaw02_sound.f k l) (decide (chk none l = 0)) := by
  have h := sound_loop l hl l [] rfl
  exact h
theorem sound_yes {l : List S28} (hl : l.length ≤ maxLen) (hv : Val l) : Ev (fun k => estoverslaw02_sound.f k l) true := by
  have h := sound_ev l hl
  rwa [(chk_val l).2 hv] at h
theorem sound_no {l : List S28} (hl : l.length ≤ maxLen) (hv : ¬ Val l) : Ev (fun k => estoverslaw02_sound.f k l) false := by
  have h := sound_ev l hl
  rwa [decide_eq_false (fun e => hv ((chk_val l).1 e))] at h
theorem lawin_loop (l : List S28) (n : Int) (hl : l.length ≤ maxLen) (post : List S28) : ∀ (pre : List S28), l = pre ++ post →
    Ev (fun k => estoverslaw02_in.l0 k l n (pre.length : Int)) (memB post n) := by
  unfold maxLen at hl
  induction post with
  | nil =>
    intro pre h
    rw [memB_nil]
    refine Ev.step (f := fun _ => some false) (fun k => ?_) (Ev.now _)
    simp only [estoverslaw02_in.l0]
    rw [if_neg (by rw [h]; simp)]
  | cons x post ih =>
    intro pre h
    have hlen : l.length = pre.length + (post.length + 1) := by rw [h]; simp
    have hx : rd_T28 l (pre.length : Int) = x := by rw [h]; exact rd_mid pre x post
    have hw : wrap64 ((pre.length : Int) + 1) = ((pre ++ [x]).length : Int) := by rw [wrap_next (by omega) (by omega)]; simp
    have ih' := ih (pre ++ [x]) (by rw [h]; simp)
    rw [memB_cons]
    refine Ev.next ?_
    simp only [estoverslaw02_in.l0, hx, hw]
    refine Ev.yes (by omega) (Ev.yes (by omega) ?_)
    by_cases c : x.f0 ≤ n
    · by_cases d : n < x.f1
      · rw [show decide (x.f0 ≤ n ∧ n < x.f1) = true by simp [c, d], Bool.true_or]
        exact Ev.yes c (Ev.yes d (Ev.now _))
      · rw [show decide (x.f0 ≤ n ∧ n < x.f1) = false by simp [d], Bool.false_or]
        exact Ev.yes c (Ev.no d ih')
    · rw [show decide (x.f0 ≤ n ∧ n < x.f1) = false by simp [c], Bool.false_or]
      exact Ev.no c ih'
theorem lawin_ev (l : List S28) (n : Int) (hl : l.length ≤ maxLen) : Ev (fun k => estoverslaw02_in.f k l n) (memB l n) := by
  have h := lawin_loop l n hl l [] rfl
  exact h
end Go.Proofs.Ytkgknibciclmjaa.I

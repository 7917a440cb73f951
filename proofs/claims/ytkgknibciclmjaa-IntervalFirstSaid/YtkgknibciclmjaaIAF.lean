/- The first gap, by the program: over lists alone. -/
import Derived.Test.YtkgknibciclmjaaIAG
import Derived.Test.YtkgknibciclmjaaI15
set_option linter.unusedSimpArgs false
set_option linter.unusedVariables false
namespace Go.Proofs.Ytkgknibciclmjaa.I
open Go.RowKit Go.Proofs.YtkgknibciclmjaaW.PrintWords Go.Proofs.YtkgknibciclmjaaW.PrintLast

/-- The test of an interval's length, as both texts have it. -/
def fits (x : S28) (n : Int) : Prop := (IntKind.u64.wrap ((IntKind.u64.wrap (x.f1)) - (IntKind.u64.wrap (x.f0)))) ≥ (IntKind.u64.wrap (n))
instance (x : S28) (n : Int) : Decidable (fits x n) := inferInstanceAs (Decidable (_ ≥ _))
def firstFit (n : Int) : List S28 → Int × Int
  | [] => (0, 6)
  | x :: xs => if fits x n then (x.f0, 0) else firstFit n xs
theorem first_loop (n : Int) (l : List S28) (hl : l.length ≤ maxLen) (post : List S28) : ∀ (pre : List S28), l = pre ++ post →
    Ev (fun k => interval_FirstGap.l0 k n l (l.length : Int) (pre.length : Int)) (firstFit n post) := by
  unfold maxLen at hl
  induction post with
  | nil =>
    intro pre h
    refine Ev.step (f := fun _ => some (0, 6)) (fun k => ?_) (Ev.now _)
    simp only [interval_FirstGap.l0]
    rw [if_neg (by rw [h]; simp)]
  | cons x post ih =>
    intro pre h
    have hlen : l.length = pre.length + (post.length + 1) := by rw [h]; simp
    have hx : rd_T28 l (pre.length : Int) = x := by rw [h]; exact rd_mid pre x post
    have hw : wrap64 ((pre.length : Int) + 1) = ((pre ++ [x]).length : Int) := by rw [wrap_next (by omega) (by omega)]; simp
    refine Ev.next ?_
    simp only [interval_FirstGap.l0, hx, hw]
    refine Ev.yes (by omega) (Ev.yes (by omega) (Ev.yes (by omega) ?_))
    simp only [firstFit]
    by_cases c : fits x n
    · rw [if_pos c]; exact Ev.yes c (Ev.now _)
    · rw [if_neg c]; exact Ev.no c (ih (pre ++ [x]) (by rw [h]; simp))
theorem firstgap_ok (s r : List S28) (lo hi n : Int) (hl : s.length ≤ maxLen) (hv : Val s) (h : lo ≤ hi) (hn : 1 ≤ n) (hr : Ev (fun k => interval_cut.f k (whole lo hi) s) r) (hrl : r.length ≤ maxLen) :
    Ev (fun k => interval_FirstGap.f k s lo hi n) (firstFit n r) := by
  have hc := check_ev s hl
  rw [(chk_val s).2 hv] at hc
  unfold interval_FirstGap.f
  refine Ev.bind hc (Ev.yes rfl (Ev.no (by omega) ?_))
  rw [decide_eq_false (by omega)]
  refine Ev.next ?_
  simp only [interval_FirstGap.j0, whole_eq, Option.bind_some]
  exact Ev.no (by simp) (Ev.bind hr (first_loop n r hrl r [] rfl))
theorem firstgap_range (s : List S28) (lo hi n : Int) (hl : s.length ≤ maxLen) (hv : Val s) (h : lo > hi ∨ n < 1) : Ev (fun k => interval_FirstGap.f k s lo hi n) (0, 2) := by
  have hc := check_ev s hl
  rw [(chk_val s).2 hv] at hc
  have hj : Ev (fun k => interval_FirstGap.j0 k s lo hi n true) (0, 2) := by
    refine Ev.next ?_
    simp only [interval_FirstGap.j0]
    exact Ev.yes trivial (Ev.now _)
  unfold interval_FirstGap.f
  refine Ev.bind hc (Ev.yes rfl ?_)
  by_cases e : lo > hi
  · exact Ev.yes e hj
  · refine Ev.no e ?_
    rw [decide_eq_true (h.resolve_left e)]
    exact hj
theorem firstgap_err (s : List S28) (lo hi n : Int) (hl : s.length ≤ maxLen) (hv : ¬ Val s) : Ev (fun k => interval_FirstGap.f k s lo hi n) (0, chk none s) := by
  unfold interval_FirstGap.f
  exact Ev.bind (check_ev s hl) (Ev.no (fun e => hv ((chk_val s).1 e)) (Ev.now _))
end Go.Proofs.Ytkgknibciclmjaa.I

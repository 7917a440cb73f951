/- Gaps, by the program: over lists alone. -/
import Derived.Test.YtkgknibciclmjaaIAC
import Derived.Test.YtkgknibciclmjaaIAT
import Derived.Test.YtkgknibciclmjaaI10
import Derived.Test.YtkgknibciclmjaaI30
set_option linter.unusedSimpArgs false
set_option linter.unusedVariables false
namespace Go.Proofs.Ytkgknibciclmjaa.I
open Go.RowKit Go.Proofs.YtkgknibciclmjaaW.PrintWords Go.Proofs.YtkgknibciclmjaaW.PrintLast

theorem ends_any' (l : List S28) : Ends (fun _ => True) l := fun _ _ => ⟨trivial, trivial⟩
/-- The list of the one interval from lo to hi. -/
def whole (a b : Int) : List S28 := if a = b then [] else [⟨a, b⟩]
theorem whole_eq (a b : Int) : interval_one.f a b = some (whole a b) := by
  unfold interval_one.f whole
  by_cases h : a = b <;> simp [h]
theorem val_whole (a b : Int) (h : a ≤ b) : Val (whole a b) := by
  unfold whole
  by_cases e : a = b
  · rw [if_pos e]; trivial
  · rw [if_neg e]; exact val_one a b (by omega)
theorem mem_whole (a b n : Int) (h : a ≤ b) : mem (whole a b) n ↔ (a ≤ n ∧ n < b) := by
  unfold whole
  by_cases e : a = b
  · rw [if_pos e]; exact ⟨fun g => absurd g (mem_nil n), fun g => by omega⟩
  · rw [if_neg e, mem_one]
theorem len_whole (a b : Int) : (whole a b).length ≤ 1 := by
  unfold whole
  by_cases e : a = b
  · rw [if_pos e]; simp
  · rw [if_neg e]; simp
theorem ends_whole {E : Int → Prop} {a b : Int} (ha : E a) (hb : E b) : Ends E (whole a b) := by
  unfold whole
  by_cases e : a = b
  · rw [if_pos e]; intro x hx; cases hx
  · rw [if_neg e]
    intro x hx
    rw [List.mem_singleton.1 hx]
    exact ⟨ha, hb⟩
theorem gaps_ok (E : Int → Prop) (s : List S28) (lo hi : Int) (hv : Val s) (h : lo ≤ hi) (hl : s.length ≤ 1000) (es : Ends E s) (e0 : E lo) (e1 : E hi) :
    ∃ r, Ev (fun k => interval_cut.f k (whole lo hi) s) r ∧ Ev (fun k => interval_Gaps.f k s lo hi) (r, 0) ∧ Val r ∧ (∀ n, mem r n ↔ (lo ≤ n ∧ n < hi) ∧ ¬ mem s n) ∧ Ends E r ∧ r.length ≤ 1001 := by
  obtain ⟨r, hr, vr, mr, er, nr⟩ := cut_ok E (whole lo hi) s (val_whole lo hi h) hv (ends_whole e0 e1) es (by have := len_whole lo hi; omega) hl
  have hc := check_ev s (by unfold maxLen; omega)
  rw [(chk_val s).2 hv] at hc
  refine ⟨r, hr, ?_, vr, fun n => by rw [mr, mem_whole lo hi n h], er, ?_⟩
  · unfold interval_Gaps.f
    simp only [whole_eq, Option.bind_some]
    exact Ev.bind hc (Ev.yes rfl (Ev.no (by omega) (Ev.bind hr (Ev.now _))))
  · have : (whole lo hi).length * (s.length + 1) ≤ 1 * 1001 := Nat.mul_le_mul (len_whole lo hi) (by omega)
    omega
theorem gaps_err (s : List S28) (lo hi : Int) (hl : s.length ≤ maxLen) (h : ¬ Val s) : Ev (fun k => interval_Gaps.f k s lo hi) ([], chk none s) := by
  unfold interval_Gaps.f
  exact Ev.bind (check_ev s hl) (Ev.no (fun e => h ((chk_val s).1 e)) (Ev.now _))
theorem gaps_range (s : List S28) (lo hi : Int) (hl : s.length ≤ maxLen) (hv : Val s) (h : lo > hi) : Ev (fun k => interval_Gaps.f k s lo hi) ([], 2) := by
  have hc := check_ev s hl
  rw [(chk_val s).2 hv] at hc
  unfold interval_Gaps.f
  exact Ev.bind hc (Ev.yes rfl (Ev.yes h (Ev.now _)))
end Go.Proofs.Ytkgknibciclmjaa.I

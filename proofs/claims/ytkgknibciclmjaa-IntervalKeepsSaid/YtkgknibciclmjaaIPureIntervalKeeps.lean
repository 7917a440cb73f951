/- The law IntervalKeeps over lists and numbers: the copies are the lists, every operation gives a result, and the copies stay equal to the lists. -/
import Derived.Test.YtkgknibciclmjaaIQIntervalKeeps
import Derived.Test.YtkgknibciclmjaaIAL
import Derived.Test.YtkgknibciclmjaaIAN
import Derived.Test.YtkgknibciclmjaaIAT
import Derived.Test.YtkgknibciclmjaaIAG
import Derived.Test.YtkgknibciclmjaaIAD
set_option linter.unusedSimpArgs false
set_option linter.unusedVariables false
namespace Go.Proofs.Ytkgknibciclmjaa.I
open Go.RowKit Go.Proofs.YtkgknibciclmjaaW.PrintWords Go.Proofs.YtkgknibciclmjaaW.PrintLast

theorem keeps_any (l : List S28) : Ends (fun _ => True) l := fun _ _ => ⟨trivial, trivial⟩
/-- The list of one interval. -/
def keeps_oneL (a b : Int) : List S28 := if a = b then [] else [⟨a, b⟩]
theorem keeps_one (a b : Int) : interval_one.f a b = some (keeps_oneL a b) := by
  unfold interval_one.f keeps_oneL
  by_cases h : a = b <;> simp [h]
theorem keeps_val (a b : Int) (h : a ≤ b) : Val (keeps_oneL a b) := by
  unfold keeps_oneL
  by_cases e : a = b
  · rw [if_pos e]; trivial
  · rw [if_neg e]; exact val_one a b (by omega)
theorem keeps_len (a b : Int) : (keeps_oneL a b).length ≤ 1 := by
  unfold keeps_oneL
  by_cases e : a = b
  · rw [if_pos e]; simp
  · rw [if_neg e]; simp
theorem keeps_edit (s : List S28) (a b : Int) (hl : s.length ≤ 12) : (∃ u, Ev (fun k => interval_Add.f k s a b) u) ∧ (∃ u, Ev (fun k => interval_Remove.f k s a b) u) ∧ (∃ u, Ev (fun k => interval_Gaps.f k s a b) u) := by
  have hs : s.length ≤ maxLen := by unfold maxLen; omega
  have hc := check_ev s hs
  by_cases hv : Val s
  case neg =>
    have hne : ¬ chk none s = 0 := fun e => hv ((chk_val s).1 e)
    refine ⟨⟨([], chk none s), by unfold interval_Add.f; exact Ev.bind hc (Ev.no hne (Ev.now _))⟩, ⟨([], chk none s), by unfold interval_Remove.f; exact Ev.bind hc (Ev.no hne (Ev.now _))⟩, _, gaps_err s a b hs hv⟩
  rw [(chk_val s).2 hv] at hc
  by_cases hab : a > b
  · exact ⟨⟨([], 2), by unfold interval_Add.f; exact Ev.bind hc (Ev.yes rfl (Ev.yes hab (Ev.now _)))⟩, ⟨([], 2), by unfold interval_Remove.f; exact Ev.bind hc (Ev.yes rfl (Ev.yes hab (Ev.now _)))⟩, _, gaps_range s a b hs hv hab⟩
  have hle : a ≤ b := by omega
  have l1 := keeps_len a b
  obtain ⟨u, hu, vu, mu, nu⟩ := union_ok s (keeps_oneL a b) hv (keeps_val a b hle) (by omega)
  obtain ⟨d, hd, vd, md, ed, nd⟩ := cut_ok (fun _ => True) s (keeps_oneL a b) hv (keeps_val a b hle) (keeps_any _) (keeps_any _) (by omega) (by omega)
  obtain ⟨g, _, hg, _⟩ := gaps_ok (fun _ => True) s a b hv hle (by omega) (keeps_any s) trivial trivial
  exact ⟨⟨(u, 0), by unfold interval_Add.f; simp only [keeps_one, Option.bind_some]; exact Ev.bind hc (Ev.yes rfl (Ev.no hab (Ev.bind hu (Ev.now _))))⟩,
    ⟨(d, 0), by unfold interval_Remove.f; simp only [keeps_one, Option.bind_some]; exact Ev.bind hc (Ev.yes rfl (Ev.no hab (Ev.bind hd (Ev.now _))))⟩, _, hg⟩
theorem keeps_sets (a b : List S28) (la : a.length ≤ 12) (lb : b.length ≤ 12) : (∃ u, Ev (fun k => interval_Union.f k a b) u) ∧ (∃ u, Ev (fun k => interval_Intersect.f k a b) u) ∧ (∃ u, Ev (fun k => interval_Subtract.f k a b) u) := by
  have ha : a.length ≤ maxLen := by unfold maxLen; omega
  have hb : b.length ≤ maxLen := by unfold maxLen; omega
  by_cases hv : Val a ∧ Val b
  case neg =>
    obtain ⟨eu, hne⟩ := union_err a b ha hb hv
    exact ⟨⟨_, eu⟩, ⟨_, inter_err a b ha hb hv⟩, ([], if chk none a = 0 then chk none b else chk none a), by unfold interval_Subtract.f; exact Ev.bind (both_ev a b ha hb) (Ev.no hne (Ev.now _))⟩
  obtain ⟨va, vb⟩ := hv
  obtain ⟨u, hu, _⟩ := union_ok a b va vb (by omega)
  obtain ⟨i, hi, _⟩ := inter_ok a b va vb (by omega)
  obtain ⟨d, hd, _⟩ := sub_ok a b va vb (by omega) (by omega)
  exact ⟨⟨_, hu⟩, ⟨_, hi⟩, _, hd⟩
theorem keeps_own (a : List S28) (la : a.length ≤ 12) : estoverslaw02_own.f a = some a := by
  unfold estoverslaw02_own.f
  simp
  try omega
theorem estoverslaw02_IntervalKeeps.pure : estoverslaw02_IntervalKeeps.Pure := by
  intro a b lo hi hla hlb hlo hhi
  refine Ev.rounds (g := fun k => estoverslaw02_IntervalKeeps.f k a b lo hi) ?_
  unfold estoverslaw02_IntervalKeeps.f
  simp only [few_ev, Option.bind_some]
  by_cases h : a.length ≤ 12 ∧ b.length ≤ 12
  case neg => exact Ev.no (by simpa using h) awake_ev
  refine Ev.yes (by simpa using h) ?_
  simp only [keeps_own a h.1, keeps_own b h.2, Option.bind_some]
  obtain ⟨⟨u, hu⟩, ⟨i, hi'⟩, ⟨d, hd⟩⟩ := keeps_sets a b h.1 h.2
  obtain ⟨⟨p, hp⟩, ⟨r, hr⟩, ⟨g, hg⟩⟩ := keeps_edit a lo hi h.1
  exact Ev.bind hu (Ev.bind hi' (Ev.bind hd (Ev.bind hp (Ev.bind hr (Ev.bind hg (Ev.bind (same_ev a hla.1) (Ev.bind (same_ev b hlb.1) (Ev.yes rfl (Ev.yes rfl awake_ev)))))))))
end Go.Proofs.Ytkgknibciclmjaa.I

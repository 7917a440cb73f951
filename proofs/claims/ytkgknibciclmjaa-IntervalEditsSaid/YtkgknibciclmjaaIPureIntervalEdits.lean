/- The law IntervalEdits over lists and numbers: adding and removing an interval gives the specified lists, or the specified errors. -/
import Derived.Test.YtkgknibciclmjaaIQIntervalEdits
import Derived.Test.YtkgknibciclmjaaIAL
import Derived.Test.YtkgknibciclmjaaIAU
import Derived.Test.YtkgknibciclmjaaIAT
import Derived.Test.YtkgknibciclmjaaIAB
set_option linter.unusedSimpArgs false
set_option linter.unusedVariables false
namespace Go.Proofs.Ytkgknibciclmjaa.I
open Go.RowKit Go.Proofs.YtkgknibciclmjaaW.PrintWords Go.Proofs.YtkgknibciclmjaaW.PrintLast

theorem ends_any (l : List S28) : Ends (fun _ => True) l := fun _ _ => ⟨trivial, trivial⟩
/-- The list of one interval. -/
def oneL (a b : Int) : List S28 := if a = b then [] else [⟨a, b⟩]
theorem one_eq (a b : Int) : interval_one.f a b = some (oneL a b) := by
  unfold interval_one.f oneL
  by_cases h : a = b <;> simp [h]
theorem val_oneL (a b : Int) (h : a ≤ b) : Val (oneL a b) := by
  unfold oneL
  by_cases e : a = b
  · rw [if_pos e]; trivial
  · rw [if_neg e]; exact val_one a b (by omega)
theorem mem_oneL (a b n : Int) (h : a ≤ b) : mem (oneL a b) n ↔ (a ≤ n ∧ n < b) := by
  unfold oneL
  by_cases e : a = b
  · rw [if_pos e]; exact ⟨fun g => absurd g (mem_nil n), fun g => by omega⟩
  · rw [if_neg e, mem_one]
theorem len_oneL (a b : Int) : (oneL a b).length ≤ 1 := by
  unfold oneL
  by_cases e : a = b
  · rw [if_pos e]; simp
  · rw [if_neg e]; simp
theorem refone_ok (s : List S28) (a b op : Int) (hv : Val s) (hab : a ≤ b) (hl : s.length ≤ 12) :
    ∃ r, Ev (fun k => estoversref02_one.f k s a b op) (r, 0) ∧ Val r ∧ ∀ n, mem r n ↔ opB op (memB s n) (memB (oneL a b) n) = true := by
  have hc := refcheck_ev s (by unfold maxLen; omega)
  rw [(chk_val s).2 hv] at hc
  obtain ⟨r, hr, vr, mr⟩ := combine_ev s (oneL a b) op (by omega) (by have := len_oneL a b; omega)
  refine ⟨r, ?_, vr, mr⟩
  unfold estoversref02_one.f
  refine Ev.bind hc (Ev.yes rfl (Ev.no (by omega) ?_))
  by_cases e : a < b
  · refine Ev.yes e (Ev.yes (by simp) ?_)
    have ho : oneL a b = [] ++ [(⟨a, b⟩ : S28)] := by unfold oneL; rw [if_neg (by omega)]; rfl
    rw [ho] at hr
    exact Ev.bind hr (Ev.now _)
  · have ho : oneL a b = [] := by unfold oneL; rw [if_pos (by omega)]
    rw [ho] at hr
    exact Ev.no e (Ev.bind hr (Ev.now _))
theorem estoverslaw02_IntervalEdits.pure : estoverslaw02_IntervalEdits.Pure := by
  intro s a b hl ha hb
  refine Ev.rounds (g := fun k => estoverslaw02_IntervalEdits.f k s a b) ?_
  unfold estoverslaw02_IntervalEdits.f
  simp only [few_ev, Option.bind_some]
  by_cases h : s.length ≤ 12
  case neg => exact Ev.no (by simp [h]) (Ev.bind awake_ev (Ev.now _))
  refine Ev.yes (by simp [h]) ?_
  have hs : s.length ≤ maxLen := hl.1
  have hc := check_ev s hs
  have rc := refcheck_ev s hs
  by_cases hv : Val s
  case neg =>
    have hne : ¬ chk none s = 0 := fun e => hv ((chk_val s).1 e)
    refine Ev.bind (a := ([], chk none s)) (by unfold interval_Add.f; exact Ev.bind hc (Ev.no hne (Ev.now _))) ?_
    refine Ev.bind (a := ([], chk none s)) (by unfold interval_Remove.f; exact Ev.bind hc (Ev.no hne (Ev.now _))) ?_
    have ho (op : Int) : Ev (fun k => estoversref02_one.f k s a b op) ([], chk none s) := by unfold estoversref02_one.f; exact Ev.bind rc (Ev.no hne (Ev.now _))
    refine Ev.bind (a := ([], chk none s)) (by unfold estoversref02_Add.f; exact Ev.bind (ho 0) (Ev.now _)) ?_
    refine Ev.bind (a := ([], chk none s)) (by unfold estoversref02_Remove.f; exact Ev.bind (ho 2) (Ev.now _)) ?_
    exact Ev.yes rfl (Ev.yes rfl (Ev.bind (same_ev [] (by unfold maxLen; simp)) (Ev.yes rfl (Ev.bind (same_ev [] (by unfold maxLen; simp)) (Ev.yes rfl (Ev.bind awake_ev (Ev.now _)))))))
  rw [(chk_val s).2 hv] at hc rc
  by_cases hab : a > b
  · refine Ev.bind (a := ([], 2)) (by unfold interval_Add.f; exact Ev.bind hc (Ev.yes rfl (Ev.yes hab (Ev.now _)))) ?_
    refine Ev.bind (a := ([], 2)) (by unfold interval_Remove.f; exact Ev.bind hc (Ev.yes rfl (Ev.yes hab (Ev.now _)))) ?_
    have ho (op : Int) : Ev (fun k => estoversref02_one.f k s a b op) ([], 2) := by unfold estoversref02_one.f; exact Ev.bind rc (Ev.yes rfl (Ev.yes hab (Ev.now _)))
    refine Ev.bind (a := ([], 2)) (by unfold estoversref02_Add.f; exact Ev.bind (ho 0) (Ev.now _)) ?_
    refine Ev.bind (a := ([], 2)) (by unfold estoversref02_Remove.f; exact Ev.bind (ho 2) (Ev.now _)) ?_
    exact Ev.yes rfl (Ev.yes rfl (Ev.bind (same_ev [] (by unfold maxLen; simp)) (Ev.yes rfl (Ev.bind (same_ev [] (by unfold maxLen; simp)) (Ev.yes rfl (Ev.bind awake_ev (Ev.now _)))))))
  have hle : a ≤ b := by omega
  have l1 := len_oneL a b
  obtain ⟨u, hu, vu, mu, nu⟩ := union_ok s (oneL a b) hv (val_oneL a b hle) (by omega)
  obtain ⟨d, hd, vd, md, ed, nd⟩ := cut_ok (fun _ => True) s (oneL a b) hv (val_oneL a b hle) (ends_any _) (ends_any _) (by omega) (by omega)
  obtain ⟨u', hu', vu', mu'⟩ := refone_ok s a b 0 hv hle h
  obtain ⟨d', hd', vd', md'⟩ := refone_ok s a b 2 hv hle h
  have eu : u = u' := val_unique u u' vu vu' (fun n => by
    rw [mu, mu', ← memB_true, ← memB_true]
    unfold opB
    cases memB s n <;> cases memB (oneL a b) n <;> simp)
  have ed' : d = d' := val_unique d d' vd vd' (fun n => by
    rw [md, md', ← memB_true, ← memB_true]
    unfold opB
    cases memB s n <;> cases memB (oneL a b) n <;> simp)
  have lu : u.length ≤ maxLen := by unfold maxLen; omega
  have ld : d.length ≤ maxLen := by
    have : s.length * ((oneL a b).length + 1) ≤ 12 * 2 := Nat.mul_le_mul h (by omega)
    unfold maxLen; omega
  refine Ev.bind (a := (u, 0)) (by unfold interval_Add.f; simp only [one_eq, Option.bind_some]; exact Ev.bind hc (Ev.yes rfl (Ev.no hab (Ev.bind hu (Ev.now _))))) ?_
  refine Ev.bind (a := (d, 0)) (by unfold interval_Remove.f; simp only [one_eq, Option.bind_some]; exact Ev.bind hc (Ev.yes rfl (Ev.no hab (Ev.bind hd (Ev.now _))))) ?_
  refine Ev.bind (a := (u', 0)) (by unfold estoversref02_Add.f; exact Ev.bind hu' (Ev.now _)) ?_
  refine Ev.bind (a := (d', 0)) (by unfold estoversref02_Remove.f; exact Ev.bind hd' (Ev.now _)) ?_
  exact Ev.yes rfl (Ev.yes rfl (Ev.bind (same_of eu lu) (Ev.yes rfl (Ev.bind (same_of ed' ld) (Ev.yes rfl (Ev.bind awake_ev (Ev.now _)))))))
end Go.Proofs.Ytkgknibciclmjaa.I

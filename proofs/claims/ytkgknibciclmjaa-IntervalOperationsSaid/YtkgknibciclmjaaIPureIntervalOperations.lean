/- The law IntervalOperations over lists: union, intersection and difference are the specified lists, or the specified errors are returned. -/
import Derived.Test.YtkgknibciclmjaaIQIntervalOperations
import Derived.Test.YtkgknibciclmjaaIAL
import Derived.Test.YtkgknibciclmjaaIAN
import Derived.Test.YtkgknibciclmjaaIAT
import Derived.Test.YtkgknibciclmjaaIAB
set_option linter.unusedSimpArgs false
set_option linter.unusedVariables false
namespace Go.Proofs.Ytkgknibciclmjaa.I
open Go.RowKit Go.Proofs.YtkgknibciclmjaaW.PrintWords Go.Proofs.YtkgknibciclmjaaW.PrintLast

theorem estoverslaw02_IntervalOperations.pure : estoverslaw02_IntervalOperations.Pure := by
  intro a b hla hlb
  refine Ev.rounds (g := fun k => estoverslaw02_IntervalOperations.f k a b) ?_
  unfold estoverslaw02_IntervalOperations.f
  simp only [few_ev, Option.bind_some]
  by_cases h : a.length ≤ 12 ∧ b.length ≤ 12
  case neg => exact Ev.no (by simpa using h) (Ev.bind awake_ev (Ev.now _))
  refine Ev.yes (by simpa using h) ?_
  have ha : a.length ≤ maxLen := hla.1
  have hb : b.length ≤ maxLen := hlb.1
  have ra := refcheck_ev a ha
  have rb := refcheck_ev b hb
  have nil : Ev (fun k => estoversref02_Same.f k [] []) true := same_ev [] (by unfold maxLen; simp)
  by_cases hv : Val a ∧ Val b
  case neg =>
    obtain ⟨eu, hne⟩ := union_err a b ha hb hv
    have ei := inter_err a b ha hb hv
    have ed : Ev (fun k => interval_Subtract.f k a b) ([], if chk none a = 0 then chk none b else chk none a) := by
      unfold interval_Subtract.f
      exact Ev.bind (both_ev a b ha hb) (Ev.no hne (Ev.now _))
    have et (op : Int) : Ev (fun k => estoversref02_two.f k a b op) ([], if chk none a = 0 then chk none b else chk none a) := by
      unfold estoversref02_two.f
      refine Ev.bind ra ?_
      by_cases h0 : chk none a = 0
      · rw [if_pos h0] at hne ⊢
        exact Ev.yes h0 (Ev.bind rb (Ev.no hne (Ev.now _)))
      · rw [if_neg h0] at hne ⊢
        exact Ev.no h0 (Ev.now _)
    refine Ev.bind eu (Ev.bind ei (Ev.bind ed ?_))
    refine Ev.bind (a := ([], if chk none a = 0 then chk none b else chk none a)) (by unfold estoversref02_Union.f; exact Ev.bind (et 0) (Ev.now _)) ?_
    refine Ev.bind (a := ([], if chk none a = 0 then chk none b else chk none a)) (by unfold estoversref02_Intersect.f; exact Ev.bind (et 1) (Ev.now _)) ?_
    refine Ev.bind (a := ([], if chk none a = 0 then chk none b else chk none a)) (by unfold estoversref02_Subtract.f; exact Ev.bind (et 2) (Ev.now _)) ?_
    exact Ev.yes rfl (Ev.yes rfl (Ev.yes rfl (Ev.bind nil (Ev.yes rfl (Ev.bind nil (Ev.yes rfl (Ev.bind nil (Ev.yes rfl (Ev.bind awake_ev (Ev.now _))))))))))
  obtain ⟨va, vb⟩ := hv
  have ends_any (l : List S28) : Ends (fun _ => True) l := fun _ _ => ⟨trivial, trivial⟩
  obtain ⟨u, hu, vu, mu, nu⟩ := union_ok a b va vb (by omega)
  obtain ⟨i, hi, vi, mi, ni⟩ := inter_ok a b va vb (by omega)
  obtain ⟨d, hd, vd, md, ed, nd⟩ := cut_ok (fun _ => True) a b va vb (ends_any _) (ends_any _) (by omega) (by omega)
  have bo := both_ev a b ha hb
  rw [(chk_val a).2 va] at ra bo
  rw [if_pos rfl, (chk_val b).2 vb] at bo
  rw [(chk_val b).2 vb] at rb
  have hsub : Ev (fun k => interval_Subtract.f k a b) (d, 0) := by
    unfold interval_Subtract.f
    exact Ev.bind bo (Ev.yes rfl (Ev.bind hd (Ev.now _)))
  have et (op : Int) : ∃ r, Ev (fun k => estoversref02_two.f k a b op) (r, 0) ∧ Val r ∧ ∀ n, mem r n ↔ opB op (memB a n) (memB b n) = true := by
    obtain ⟨r, hr, vr, mr⟩ := combine_ev a b op (by omega) (by omega)
    refine ⟨r, ?_, vr, mr⟩
    unfold estoversref02_two.f
    exact Ev.bind ra (Ev.yes rfl (Ev.bind rb (Ev.yes rfl (Ev.bind hr (Ev.now _)))))
  obtain ⟨u', hu', vu', mu'⟩ := et 0
  obtain ⟨i', hi', vi', mi'⟩ := et 1
  obtain ⟨d', hd', vd', md'⟩ := et 2
  have eu : u = u' := val_unique u u' vu vu' (fun n => by
    rw [mu, mu', ← memB_true, ← memB_true]
    unfold opB
    cases memB a n <;> cases memB b n <;> simp)
  have ei : i = i' := val_unique i i' vi vi' (fun n => by
    rw [mi, mi', ← memB_true, ← memB_true]
    unfold opB
    cases memB a n <;> cases memB b n <;> simp)
  have ed' : d = d' := val_unique d d' vd vd' (fun n => by
    rw [md, md', ← memB_true, ← memB_true]
    unfold opB
    cases memB a n <;> cases memB b n <;> simp)
  have lu : u.length ≤ maxLen := by unfold maxLen; omega
  have li : i.length ≤ maxLen := by unfold maxLen; omega
  have ld : d.length ≤ maxLen := by
    have : a.length * (b.length + 1) ≤ 12 * 13 := Nat.mul_le_mul h.1 (by omega)
    unfold maxLen; omega
  refine Ev.bind hu (Ev.bind hi (Ev.bind hsub ?_))
  refine Ev.bind (a := (u', 0)) (by unfold estoversref02_Union.f; exact Ev.bind hu' (Ev.now _)) ?_
  refine Ev.bind (a := (i', 0)) (by unfold estoversref02_Intersect.f; exact Ev.bind hi' (Ev.now _)) ?_
  refine Ev.bind (a := (d', 0)) (by unfold estoversref02_Subtract.f; exact Ev.bind hd' (Ev.now _)) ?_
  exact Ev.yes rfl (Ev.yes rfl (Ev.yes rfl (Ev.bind (same_of eu lu) (Ev.yes rfl (Ev.bind (same_of ei li) (Ev.yes rfl (Ev.bind (same_of ed' ld) (Ev.yes rfl (Ev.bind awake_ev (Ev.now _))))))))))
end Go.Proofs.Ytkgknibciclmjaa.I

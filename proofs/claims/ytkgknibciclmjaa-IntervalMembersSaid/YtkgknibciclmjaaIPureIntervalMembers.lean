/- The law IntervalMembers over lists: of valid lists the results are valid, and an int is in a union, intersection or difference exactly if the sets say so. -/
import Derived.Test.YtkgknibciclmjaaIQIntervalMembers
import Derived.Test.YtkgknibciclmjaaIAL
import Derived.Test.YtkgknibciclmjaaIAS
import Derived.Test.YtkgknibciclmjaaIAN
import Derived.Test.YtkgknibciclmjaaIAD
set_option linter.unusedSimpArgs false
set_option linter.unusedVariables false
namespace Go.Proofs.Ytkgknibciclmjaa.I
open Go.RowKit Go.Proofs.YtkgknibciclmjaaW.PrintWords Go.Proofs.YtkgknibciclmjaaW.PrintLast

theorem members_skip (a b : List S28) (n : Int) : Ev (fun k => estoverslaw02_IntervalMembers.j0 k a b n true) true := by
  refine Ev.next ?_
  simp only [estoverslaw02_IntervalMembers.j0]
  exact Ev.yes trivial (Ev.bind awake_ev (Ev.now _))
theorem estoverslaw02_IntervalMembers.pure : estoverslaw02_IntervalMembers.Pure := by
  intro a b n hla hlb hn
  refine Ev.rounds (g := fun k => estoverslaw02_IntervalMembers.f k a b n) ?_
  unfold estoverslaw02_IntervalMembers.f
  simp only [few_ev, Option.bind_some]
  by_cases h : a.length ≤ 12 ∧ b.length ≤ 12
  case neg => exact Ev.no (by simpa using h) (members_skip a b n)
  refine Ev.yes (by simpa using h) ?_
  have ha : a.length ≤ maxLen := hla.1
  have hb : b.length ≤ maxLen := hlb.1
  by_cases va : Val a
  case neg => exact Ev.bind (sound_no ha va) (Ev.no (by simp) (members_skip a b n))
  refine Ev.bind (sound_yes ha va) (Ev.yes rfl ?_)
  by_cases vb : Val b
  case neg => exact Ev.bind (sound_no hb vb) (members_skip a b n)
  refine Ev.bind (sound_yes hb vb) ?_
  obtain ⟨u, hu, vu, mu, nu⟩ := union_ok a b va vb (by omega)
  obtain ⟨i, hi, vi, mi, ni⟩ := inter_ok a b va vb (by omega)
  obtain ⟨d, hd, vd, md, nd⟩ := sub_ok a b va vb (by omega) (by omega)
  have lu : u.length ≤ maxLen := by unfold maxLen; omega
  have li : i.length ≤ maxLen := by unfold maxLen; omega
  have ld : d.length ≤ maxLen := by
    have : a.length * (b.length + 1) ≤ 12 * 13 := Nat.mul_le_mul h.1 (by omega)
    unfold maxLen; omega
  have eu : memB u n = (memB a n || memB b n) := by
    rw [Bool.eq_iff_iff, memB_true, mu, ← memB_true, ← memB_true]; simp
  have ei : memB i n = (memB a n && memB b n) := by
    rw [Bool.eq_iff_iff, memB_true, mi, ← memB_true, ← memB_true]; simp
  have ed : memB d n = (memB a n && !memB b n) := by
    rw [Bool.eq_iff_iff, memB_true, md, ← memB_true, ← memB_true]; simp
  have ia := lawin_ev a n ha
  have ib := lawin_ev b n hb
  have iu := lawin_ev u n lu
  have ii := lawin_ev i n li
  have id' := lawin_ev d n ld
  have cu := contains_ev u n (by omega)
  rw [(chk_val u).2 vu, decide_eq_true rfl, Bool.true_and, eu] at cu
  rw [eu] at iu
  rw [ei] at ii
  rw [ed] at id'
  refine Ev.next ?_
  simp only [estoverslaw02_IntervalMembers.j0]
  refine Ev.no (by simp) (Ev.bind hu (Ev.bind hi (Ev.bind hd (Ev.yes rfl (Ev.yes rfl (Ev.yes rfl (Ev.bind (sound_yes lu vu) (Ev.yes rfl (Ev.bind (sound_yes li vi) (Ev.yes rfl (Ev.bind (sound_yes ld vd) ?_)))))))))))
  refine Ev.next ?_
  simp only [estoverslaw02_IntervalMembers.j1]
  refine Ev.no (by simp) (Ev.bind ia (Ev.bind ib (Ev.bind iu ?_)))
  cases xa : memB a n <;> cases xb : memB b n <;> simp only [xa, xb] at ii id' cu
  · exact Ev.no (by simp) (Ev.yes (by simp) (Ev.bind ii (Ev.yes (by simp) (Ev.bind id' (Ev.yes (by simp) (Ev.bind cu (Ev.yes (by simp) (Ev.bind awake_ev (Ev.now _)))))))))
  · exact Ev.no (by simp) (Ev.yes (by simp) (Ev.bind ii (Ev.yes (by simp) (Ev.bind id' (Ev.yes (by simp) (Ev.bind cu (Ev.yes (by simp) (Ev.bind awake_ev (Ev.now _)))))))))
  · exact Ev.yes (by simp) (Ev.yes (by simp) (Ev.bind ii (Ev.yes (by simp) (Ev.bind id' (Ev.yes (by simp) (Ev.no (by simp) (Ev.bind cu (Ev.yes (by simp) (Ev.bind awake_ev (Ev.now _))))))))))
  · exact Ev.yes (by simp) (Ev.yes (by simp) (Ev.bind ii (Ev.yes (by simp) (Ev.bind id' (Ev.no (by simp) (Ev.yes (by simp) (Ev.bind cu (Ev.yes (by simp) (Ev.bind awake_ev (Ev.now _))))))))))
end Go.Proofs.Ytkgknibciclmjaa.I

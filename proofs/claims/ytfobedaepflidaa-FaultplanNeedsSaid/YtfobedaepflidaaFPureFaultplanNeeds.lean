/- The law FaultplanNeeds: a plan needs at most one user frame and, if any, exactly the kernel frames of the missing tables; refusing, waiting and doing nothing need none; and an error or a reason to wait is there exactly with the actions for it. -/
import Derived.Test.YtfobedaepflidaaFQFaultplanNeeds
import Derived.Test.YtfobedaepflidaaFPD
set_option linter.unusedSimpArgs false
set_option linter.unusedVariables false
namespace Go.Proofs.Ytfobedaepflidaa.F
open Go.RowKit Go.Proofs.YtfobedaepflidaaW.PrintWords Go.Proofs.YtfobedaepflidaaW.PrintLast

theorem estoverslaw26_FaultplanNeeds.pure : estoverslaw26_FaultplanNeeds.Pure := by
  intro a0_0 a0_1 a0_2 a0_3 a0_4 a0_5 a0_6 a0_7 a0_8 a0_9 a0_10 a0_11 a0_12 a0_13 a0_14 a0_15 a0_16 _ _ _
  refine ⟨20, ?_⟩
  unfold estoverslaw26_FaultplanNeeds.f
  rw [pln_ev, Option.bind_some]
  by_cases h : chk a0_0 a0_1 a0_2 a0_3 a0_4 a0_5 a0_6 a0_7 a0_8 a0_9 a0_10 a0_11 a0_12 a0_13 a0_14 a0_15 a0_16 = 0
  · have hv := pln_vals _ _ _ _ _ _ _ _ _ _ _ _ _ _ _ _ _ h
    generalize pln a0_0 a0_1 a0_2 a0_3 a0_4 a0_5 a0_6 a0_7 a0_8 a0_9 a0_10 a0_11 a0_12 a0_13 a0_14 a0_15 a0_16 = u at hv
    by_cases hm : a0_16 = 0
    · subst hm
      rcases hv with rfl | rfl | rfl | rfl | rfl | rfl | rfl | rfl | rfl | rfl | rfl | rfl | rfl | rfl | rfl | rfl
      all_goals simp [estoverslaw26_FaultplanNeeds.j0, estoverslaw26_FaultplanNeeds.j1, awake_ev]
    · rcases hv with rfl | rfl | rfl | rfl | rfl | rfl | rfl | rfl | rfl | rfl | rfl | rfl | rfl | rfl | rfl | rfl
      all_goals simp [estoverslaw26_FaultplanNeeds.j0, estoverslaw26_FaultplanNeeds.j1, awake_ev, hm]
  · have he : (pln a0_0 a0_1 a0_2 a0_3 a0_4 a0_5 a0_6 a0_7 a0_8 a0_9 a0_10 a0_11 a0_12 a0_13 a0_14 a0_15 a0_16).2.2.2.2.2 ≠ 0 := pln_bad _ _ _ _ _ _ _ _ _ _ _ _ _ _ _ _ _ h
    rw [if_neg he, pln_bad_eq _ _ _ _ _ _ _ _ _ _ _ _ _ _ _ _ _ h]
    simp only [beq_self_eq_true, Bool.and_self, if_true, awake_ev, Option.bind_some]
end Go.Proofs.Ytfobedaepflidaa.F

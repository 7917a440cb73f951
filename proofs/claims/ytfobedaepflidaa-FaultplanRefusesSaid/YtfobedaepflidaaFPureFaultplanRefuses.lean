/- The law FaultplanRefuses: without a region every access is refused with ErrFault; a write in a region without the right to write with ErrAccess; a page behind the end of a file with ErrBus, unless the process has a copy of its own; and no other access is refused. -/
import Derived.Test.YtfobedaepflidaaFQFaultplanRefuses
import Derived.Test.YtfobedaepflidaaFPD
set_option linter.unusedSimpArgs false
set_option linter.unusedVariables false
namespace Go.Proofs.Ytfobedaepflidaa.F
open Go.RowKit Go.Proofs.YtfobedaepflidaaW.PrintWords Go.Proofs.YtfobedaepflidaaW.PrintLast

theorem estoverslaw26_FaultplanRefuses.pure : estoverslaw26_FaultplanRefuses.Pure := by
  intro a0_0 a0_1 a0_2 a0_3 a0_4 a0_5 a0_6 a0_7 a0_8 a0_9 a0_10 a0_11 a0_12 a0_13 a0_14 a0_15 a0_16 _ _ _
  refine ⟨20, ?_⟩
  unfold estoverslaw26_FaultplanRefuses.f
  rw [pln_ev, Option.bind_some]
  by_cases h : chk a0_0 a0_1 a0_2 a0_3 a0_4 a0_5 a0_6 a0_7 a0_8 a0_9 a0_10 a0_11 a0_12 a0_13 a0_14 a0_15 a0_16 = 0
  · have he : (pln a0_0 a0_1 a0_2 a0_3 a0_4 a0_5 a0_6 a0_7 a0_8 a0_9 a0_10 a0_11 a0_12 a0_13 a0_14 a0_15 a0_16).2.2.2.2.2 = 0 := pln_ok _ _ _ _ _ _ _ _ _ _ _ _ _ _ _ _ _ h
    rw [if_pos he]
    have hr := pln_err _ _ _ _ _ _ _ _ _ _ _ _ _ _ _ _ _ h
    have hen := chk_entry _ _ _ _ _ _ _ _ _ _ _ _ _ _ _ _ _ h
    simp only [estoverslaw26_FaultplanRefuses.j0, awake_ev, Option.bind_some, hr]
    cases a0_1
    · rfl
    · simp only [if_true]
      generalize hq : (a0_2 == 1) = q
      rcases hen with rfl | rfl | rfl | rfl <;> cases a0_0 <;> cases q <;> cases a0_5 <;> cases a0_10 <;> rfl
  · have he : (pln a0_0 a0_1 a0_2 a0_3 a0_4 a0_5 a0_6 a0_7 a0_8 a0_9 a0_10 a0_11 a0_12 a0_13 a0_14 a0_15 a0_16).2.2.2.2.2 ≠ 0 := pln_bad _ _ _ _ _ _ _ _ _ _ _ _ _ _ _ _ _ h
    rw [if_neg he, awake_ev]
    rfl
end Go.Proofs.Ytfobedaepflidaa.F

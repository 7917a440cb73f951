/- The law FaultplanPrivate: on the way to the end of a fault, a private region never makes the page of the file dirty, and a shared region never copies it and never leads to memory of the process's own. -/
import Derived.Test.YtfobedaepflidaaFQFaultplanPrivate
import Derived.Test.YtfobedaepflidaaFPL
import Derived.Test.YtfobedaepflidaaFPB
set_option linter.unusedSimpArgs false
set_option linter.unusedVariables false
namespace Go.Proofs.Ytfobedaepflidaa.F
open Go.RowKit Go.Proofs.YtfobedaepflidaaW.PrintWords Go.Proofs.YtfobedaepflidaaW.PrintLast

theorem estoverslaw26_FaultplanPrivate.pure : estoverslaw26_FaultplanPrivate.Pure := by
  intro a0_0 a0_1 a0_2 a0_3 a0_4 a0_5 a0_6 a0_7 a0_8 a0_9 a0_10 a0_11 a0_12 a0_13 a0_14 a0_15 a0_16 _ _ _
  refine ⟨60, ?_⟩
  unfold estoverslaw26_FaultplanPrivate.f
  cases h1 : a0_1
  · simp only [Bool.false_eq_true, if_false, estoverslaw26_FaultplanPrivate.j0, if_true, awake_ev, Option.bind_some]
  · subst h1
    simp only [if_true, rchk_ev, Option.bind_some]
    by_cases h : chk a0_0 true a0_2 a0_3 a0_4 a0_5 a0_6 a0_7 a0_8 a0_9 a0_10 a0_11 a0_12 a0_13 a0_14 a0_15 a0_16 = 0
    · rw [h]
      obtain ⟨e, hv⟩ := chk_V _ _ _ _ _ _ _ _ _ _ _ _ _ _ _ _ _ h rfl
      have hl := priv_loop a0_14 7 24 e _ _ _ _ _ _ _ _ _ _ _ _ _ _ _ _ _ 0 hv (Nat.le_succ_of_le (rank_le6 _ _ _ _ _ _ _ _ _ _ _ _ _ _ _ _)) (by decide) (by decide) (fun _ => rfl)
      simp only [estoverslaw26_FaultplanPrivate.j0]
      exact hl
    · have hb : (chk a0_0 true a0_2 a0_3 a0_4 a0_5 a0_6 a0_7 a0_8 a0_9 a0_10 a0_11 a0_12 a0_13 a0_14 a0_15 a0_16 != 0) = true := bne_iff_ne.mpr h
      rw [hb]
      simp only [estoverslaw26_FaultplanPrivate.j0, if_true, awake_ev, Option.bind_some]
end Go.Proofs.Ytfobedaepflidaa.F

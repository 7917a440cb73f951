/- The law FaultplanEnds: every fault ends after at most eight steps, in the access being possible or refused, and it is refused exactly if the first plan refuses it. -/
import Derived.Test.YtfobedaepflidaaFQFaultplanEnds
import Derived.Test.YtfobedaepflidaaFPK
set_option linter.unusedSimpArgs false
set_option linter.unusedVariables false
namespace Go.Proofs.Ytfobedaepflidaa.F
open Go.RowKit Go.Proofs.YtfobedaepflidaaW.PrintWords Go.Proofs.YtfobedaepflidaaW.PrintLast

theorem estoverslaw26_FaultplanEnds.pure : estoverslaw26_FaultplanEnds.Pure := by
  intro a0_0 a0_1 a0_2 a0_3 a0_4 a0_5 a0_6 a0_7 a0_8 a0_9 a0_10 a0_11 a0_12 a0_13 a0_14 a0_15 a0_16 _ _ _
  refine ⟨40, ?_⟩
  unfold estoverslaw26_FaultplanEnds.f
  rw [pln_ev, Option.bind_some]
  by_cases h : chk a0_0 a0_1 a0_2 a0_3 a0_4 a0_5 a0_6 a0_7 a0_8 a0_9 a0_10 a0_11 a0_12 a0_13 a0_14 a0_15 a0_16 = 0
  · rw [if_pos (pln_ok _ _ _ _ _ _ _ _ _ _ _ _ _ _ _ _ _ h)]
    cases h1 : a0_1
    · subst h1
      have hu : pln a0_0 false a0_2 a0_3 a0_4 a0_5 a0_6 a0_7 a0_8 a0_9 a0_10 a0_11 a0_12 a0_13 a0_14 a0_15 a0_16 = (1, 13, 0, 0, 0, 0) := by
        rw [pln_eq _ _ _ _ _ _ _ _ _ _ _ _ _ _ _ _ _ h]
        rfl
      exact ends_term 27 _ _ _ _ _ _ _ _ _ _ _ _ _ _ _ _ _ 0 _ _ _ _ _ h (by decide) (Or.inr (by rw [hu])) (by rw [aft, if_pos h]; rfl) Iff.rfl
    · subst h1
      obtain ⟨e, hv⟩ := chk_V _ _ _ _ _ _ _ _ _ _ _ _ _ _ _ _ _ h rfl
      exact ends_loop 7 13 e _ _ _ _ _ _ _ _ _ _ _ _ _ _ _ _ _ 0 _ _ _ _ _ hv (Nat.le_succ_of_le (rank_le _ _ _ _ _ _ _ _ _ _ _ _ _ _ _ _)) (by decide) (by decide) Iff.rfl
  · rw [if_neg (pln_bad _ _ _ _ _ _ _ _ _ _ _ _ _ _ _ _ _ h), awake_ev]
    rfl
end Go.Proofs.Ytfobedaepflidaa.F

/- The law FaultplanAfters: After returns the specified case, or the specified error, for all cases. -/
import Derived.Test.YtfobedaepflidaaFQFaultplanAfters
import Derived.Test.YtfobedaepflidaaFPH
import Derived.Test.YtfobedaepflidaaFPC
set_option linter.unusedSimpArgs false
set_option linter.unusedVariables false
namespace Go.Proofs.Ytfobedaepflidaa.F
open Go.RowKit Go.Proofs.YtfobedaepflidaaW.PrintWords Go.Proofs.YtfobedaepflidaaW.PrintLast

theorem estoverslaw26_FaultplanAfters.pure : estoverslaw26_FaultplanAfters.Pure := by
  intro a0_0 a0_1 a0_2 a0_3 a0_4 a0_5 a0_6 a0_7 a0_8 a0_9 a0_10 a0_11 a0_12 a0_13 a0_14 a0_15 a0_16 _ _ _
  refine ⟨20, ?_⟩
  unfold estoverslaw26_FaultplanAfters.f
  rw [aft_ev, Option.bind_some, raft_ev, Option.bind_some]
  generalize aft a0_0 a0_1 a0_2 a0_3 a0_4 a0_5 a0_6 a0_7 a0_8 a0_9 a0_10 a0_11 a0_12 a0_13 a0_14 a0_15 a0_16 = u
  simp only [beq_self_eq_true, Bool.and_self, if_true, awake_ev, Option.bind_some]
end Go.Proofs.Ytfobedaepflidaa.F

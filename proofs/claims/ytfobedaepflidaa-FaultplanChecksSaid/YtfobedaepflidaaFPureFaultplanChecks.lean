/- The law FaultplanChecks: Check returns the specified error for all cases. -/
import Derived.Test.YtfobedaepflidaaFQFaultplanChecks
import Derived.Test.YtfobedaepflidaaFPB
import Derived.Test.YtfobedaepflidaaFPC
set_option linter.unusedSimpArgs false
set_option linter.unusedVariables false
namespace Go.Proofs.Ytfobedaepflidaa.F
open Go.RowKit Go.Proofs.YtfobedaepflidaaW.PrintWords Go.Proofs.YtfobedaepflidaaW.PrintLast

theorem estoverslaw26_FaultplanChecks.pure : estoverslaw26_FaultplanChecks.Pure := by
  intro a0_0 a0_1 a0_2 a0_3 a0_4 a0_5 a0_6 a0_7 a0_8 a0_9 a0_10 a0_11 a0_12 a0_13 a0_14 a0_15 a0_16 _ _ _
  refine ⟨20, ?_⟩
  unfold estoverslaw26_FaultplanChecks.f
  rw [chk_ev, Option.bind_some, rchk_ev, Option.bind_some, if_pos rfl, awake_ev]
  rfl
end Go.Proofs.Ytfobedaepflidaa.F

/- Of the faultplan laws: the chapter's examples. -/
import Derived.Test.YtfobedaepflidaaF12
set_option linter.unusedSimpArgs false
set_option linter.unusedVariables false
namespace Go.Proofs.Ytfobedaepflidaa.F
open Go.RowKit Go.Proofs.YtfobedaepflidaaW.PrintWords Go.Proofs.YtfobedaepflidaaW.PrintLast

theorem awake_10 : estoverslaw26_awake.f 10 = some true := rfl
theorem awake_ev (k : Nat) : estoverslaw26_awake.f (k + 10) = some true := by
  induction k with
  | zero => exact awake_10
  | succ k ih => exact estoverslaw26_awake.mono (k + 10) true ih
end Go.Proofs.Ytfobedaepflidaa.F

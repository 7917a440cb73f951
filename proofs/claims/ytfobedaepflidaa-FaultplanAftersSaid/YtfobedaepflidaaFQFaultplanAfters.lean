/- The pure statement of the law FaultplanAfters. -/
import Derived.Test.YtfobedaepflidaaF23
import Derived.Test.YtfobedaepflidaaFK
namespace Go.Proofs.Ytfobedaepflidaa.F
def estoverslaw26_FaultplanAfters.Pure : Prop := ∀ (a0_0 : Bool) (a0_1 : Bool) (a0_2 : Int) (a0_3 : Bool) (a0_4 : Bool) (a0_5 : Bool) (a0_6 : Bool) (a0_7 : Int) (a0_8 : Bool) (a0_9 : Bool) (a0_10 : Bool) (a0_11 : Bool) (a0_12 : Bool) (a0_13 : Bool) (a0_14 : Bool) (a0_15 : Bool) (a0_16 : Int), ((Lit.int .i64 a0_2).wf = true) → ((Lit.int .i64 a0_7).wf = true) → ((Lit.int .i64 a0_16).wf = true) → ∃ k, estoverslaw26_FaultplanAfters.f k a0_0 a0_1 a0_2 a0_3 a0_4 a0_5 a0_6 a0_7 a0_8 a0_9 a0_10 a0_11 a0_12 a0_13 a0_14 a0_15 a0_16 = some true
end Go.Proofs.Ytfobedaepflidaa.F

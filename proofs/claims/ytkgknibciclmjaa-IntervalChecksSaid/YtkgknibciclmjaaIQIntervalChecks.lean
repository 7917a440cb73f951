/- The pure statement of the law IntervalChecks. -/
import Derived.Test.YtkgknibciclmjaaI21
import Derived.Test.YtkgknibciclmjaaIK
namespace Go.Proofs.Ytkgknibciclmjaa.I
def estoverslaw02_IntervalChecks.Pure : Prop := ∀ (l0 : List (S28)) (a1 : Int), (l0.length ≤ maxLen ∧ ∀ x ∈ l0, W28 x) → ((Lit.int .i64 a1).wf = true) → ∃ k, estoverslaw02_IntervalChecks.f k l0 a1 = some true
end Go.Proofs.Ytkgknibciclmjaa.I

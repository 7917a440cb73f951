/- The pure statement of the law IntervalKeeps. -/
import Derived.Test.YtkgknibciclmjaaI48
import Derived.Test.YtkgknibciclmjaaIK
namespace Go.Proofs.Ytkgknibciclmjaa.I
def estoverslaw02_IntervalKeeps.Pure : Prop := ∀ (l0 : List (S28)) (l1 : List (S28)) (a2_0 : Int) (a2_1 : Int), (l0.length ≤ maxLen ∧ ∀ x ∈ l0, W28 x) → (l1.length ≤ maxLen ∧ ∀ x ∈ l1, W28 x) → ((Lit.int .i64 a2_0).wf = true) → ((Lit.int .i64 a2_1).wf = true) → ∃ k, estoverslaw02_IntervalKeeps.f k l0 l1 a2_0 a2_1 = some true
end Go.Proofs.Ytkgknibciclmjaa.I

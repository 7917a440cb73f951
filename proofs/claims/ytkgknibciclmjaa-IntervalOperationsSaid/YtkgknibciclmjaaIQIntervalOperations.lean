/- The pure statement of the law IntervalOperations. -/
import Derived.Test.YtkgknibciclmjaaI44
import Derived.Test.YtkgknibciclmjaaIK
namespace Go.Proofs.Ytkgknibciclmjaa.I
def estoverslaw02_IntervalOperations.Pure : Prop := ∀ (l0 : List (S28)) (l1 : List (S28)), (l0.length ≤ maxLen ∧ ∀ x ∈ l0, W28 x) → (l1.length ≤ maxLen ∧ ∀ x ∈ l1, W28 x) → ∃ k, estoverslaw02_IntervalOperations.f k l0 l1 = some true
end Go.Proofs.Ytkgknibciclmjaa.I

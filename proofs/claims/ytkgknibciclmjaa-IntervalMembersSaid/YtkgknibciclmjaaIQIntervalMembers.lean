/- The pure statement of the law IntervalMembers. -/
import Derived.Test.YtkgknibciclmjaaI45
import Derived.Test.YtkgknibciclmjaaIK
namespace Go.Proofs.Ytkgknibciclmjaa.I
def estoverslaw02_IntervalMembers.Pure : Prop := ∀ (l0 : List (S28)) (l1 : List (S28)) (a2 : Int), (l0.length ≤ maxLen ∧ ∀ x ∈ l0, W28 x) → (l1.length ≤ maxLen ∧ ∀ x ∈ l1, W28 x) → ((Lit.int .i64 a2).wf = true) → ∃ k, estoverslaw02_IntervalMembers.f k l0 l1 a2 = some true
end Go.Proofs.Ytkgknibciclmjaa.I

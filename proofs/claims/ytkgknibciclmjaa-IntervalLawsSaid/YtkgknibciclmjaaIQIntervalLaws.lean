/- The pure statement of the law IntervalLaws. -/
import Derived.Test.YtkgknibciclmjaaI46
import Derived.Test.YtkgknibciclmjaaIK
namespace Go.Proofs.Ytkgknibciclmjaa.I
def estoverslaw02_IntervalLaws.Pure : Prop := ∀ (l0 : List (S28)) (l1 : List (S28)) (a2_0 : Int) (a2_1 : Int) (a2_2 : Int), (l0.length ≤ maxLen ∧ ∀ x ∈ l0, W28 x) → (l1.length ≤ maxLen ∧ ∀ x ∈ l1, W28 x) → ((Lit.int .i64 a2_0).wf = true) → ((Lit.int .i64 a2_1).wf = true) → ((Lit.int .i64 a2_2).wf = true) → ∃ k, estoverslaw02_IntervalLaws.f k l0 l1 a2_0 a2_1 a2_2 = some true
end Go.Proofs.Ytkgknibciclmjaa.I

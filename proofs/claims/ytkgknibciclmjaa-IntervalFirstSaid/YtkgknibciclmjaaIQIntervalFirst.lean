/- The pure statement of the law IntervalFirst. -/
import Derived.Test.YtkgknibciclmjaaI37
import Derived.Test.YtkgknibciclmjaaIK
namespace Go.Proofs.Ytkgknibciclmjaa.I
def estoverslaw02_IntervalFirst.Pure : Prop := ∀ (l0 : List (S28)) (a1_0 : Int) (a1_1 : Int) (a1_2 : Int), (l0.length ≤ maxLen ∧ ∀ x ∈ l0, W28 x) → ((Lit.int .i64 a1_0).wf = true) → ((Lit.int .i64 a1_1).wf = true) → ((Lit.int .i64 a1_2).wf = true) → ∃ k, estoverslaw02_IntervalFirst.f k l0 a1_0 a1_1 a1_2 = some true
end Go.Proofs.Ytkgknibciclmjaa.I

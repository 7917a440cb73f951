/- The pure statement of the law ErrseqOnce. -/
import Derived.Test.YtminfgfigpiajaaE21
import Derived.Test.YtminfgfigpiajaaEK
namespace Go.Proofs.Ytminfgfigpiajaa.E
def estoverslaw29_ErrseqOnce.Pure : Prop := ∀ (l0 : List (S43)), (l0.length ≤ maxLen ∧ ∀ x ∈ l0, W43 x) → ∃ k, estoverslaw29_ErrseqOnce.f k l0 = some true
end Go.Proofs.Ytminfgfigpiajaa.E

/- The pure statement of the law ErrseqSets. -/
import Derived.Test.YtminfgfigpiajaaE13
import Derived.Test.YtminfgfigpiajaaEK
namespace Go.Proofs.Ytminfgfigpiajaa.E
def estoverslaw29_ErrseqSets.Pure : Prop := ∀ (a0_0 : Int) (a0_1 : Bool), ((Lit.int .i64 a0_0).wf = true) → ∃ k, estoverslaw29_ErrseqSets.f k a0_0 a0_1 = some true
end Go.Proofs.Ytminfgfigpiajaa.E

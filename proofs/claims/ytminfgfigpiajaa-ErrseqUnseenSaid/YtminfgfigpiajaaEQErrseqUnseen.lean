/- The pure statement of the law ErrseqUnseen. -/
import Derived.Test.YtminfgfigpiajaaE23
import Derived.Test.YtminfgfigpiajaaEK
namespace Go.Proofs.Ytminfgfigpiajaa.E
def estoverslaw29_ErrseqUnseen.Pure : Prop := ∀ (a0_0 : Int) (a0_1 : Bool), ((Lit.int .i64 a0_0).wf = true) → ∃ k, estoverslaw29_ErrseqUnseen.f k a0_0 a0_1 = some true
end Go.Proofs.Ytminfgfigpiajaa.E

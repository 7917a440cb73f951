/- The pure statement of the law ErrseqChecks. -/
import Derived.Test.YtminfgfigpiajaaE15
import Derived.Test.YtminfgfigpiajaaEK
namespace Go.Proofs.Ytminfgfigpiajaa.E
def estoverslaw29_ErrseqChecks.Pure : Prop := ∀ (a0_0 : Int) (a0_1 : Bool) (a1 : Int), ((Lit.int .i64 a0_0).wf = true) → ((Lit.int .i64 a1).wf = true) → ∃ k, estoverslaw29_ErrseqChecks.f k a0_0 a0_1 a1 = some true
end Go.Proofs.Ytminfgfigpiajaa.E

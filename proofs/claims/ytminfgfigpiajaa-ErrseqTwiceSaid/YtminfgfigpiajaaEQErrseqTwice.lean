/- The pure statement of the law ErrseqTwice. -/
import Derived.Test.YtminfgfigpiajaaE22
import Derived.Test.YtminfgfigpiajaaEK
namespace Go.Proofs.Ytminfgfigpiajaa.E
def estoverslaw29_ErrseqTwice.Pure : Prop := ∀ (a0_0 : Int) (a0_1 : Bool) (a1 : Int), ((Lit.int .i64 a0_0).wf = true) → ((Lit.int .i64 a1).wf = true) → ∃ k, estoverslaw29_ErrseqTwice.f k a0_0 a0_1 a1 = some true
end Go.Proofs.Ytminfgfigpiajaa.E

/- The law ErrseqOnce over numbers and lists: what is left of it behind the walk is that the chapter's examples hold. -/
import Derived.Test.YtminfgfigpiajaaEQErrseqOnce
namespace Go.Proofs.Ytminfgfigpiajaa.E
open Go.RowKit Go.Proofs.YtminfgfigpiajaaW.PrintWords Go.Proofs.YtminfgfigpiajaaW.PrintLast

theorem estoverslaw29_ErrseqOnce.pure : estoverslaw29_ErrseqOnce.Pure := by
  intro l _
  exact ⟨60, by unfold estoverslaw29_ErrseqOnce.f; decide +kernel⟩

end Go.Proofs.Ytminfgfigpiajaa.E

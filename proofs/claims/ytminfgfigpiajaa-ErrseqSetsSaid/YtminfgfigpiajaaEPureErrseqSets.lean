/- The law ErrseqSets over numbers: what the printed functions answer. -/
import Derived.Test.YtminfgfigpiajaaEQErrseqSets
set_option linter.unusedSimpArgs false
set_option linter.unusedVariables false
namespace Go.Proofs.Ytminfgfigpiajaa.E
open Go.RowKit Go.Proofs.YtminfgfigpiajaaW.PrintWords Go.Proofs.YtminfgfigpiajaaW.PrintLast

theorem awake_ErrseqSets : estoverslaw29_awake.f 5 = some true := by decide +kernel
theorem estoverslaw29_ErrseqSets.pure : estoverslaw29_ErrseqSets.Pure := by
  intro a b ha
  refine ⟨5, ?_⟩
  unfold estoverslaw29_ErrseqSets.f
  rw [awake_ErrseqSets]
  unfold errseq_Set.f errseq_Sample.f estoversref29_Set.f estoversref29_Sample.f errseq_Valid.f errseq_fresh.f estoversref29_Valid.f
  unfold estoversref29_Set.j0
  by_cases h0 : a ≥ 0 <;> by_cases h1 : a ≤ 1073741824 <;> by_cases h2 : a > 0 <;> by_cases h3 : a = 1073741824 <;> by_cases h4 : a = 0 <;> cases b <;> first | (exfalso; omega) | (simp [h0, h1, h2, h3, h4]; done) | (subst h3; simp; done) | (subst h4; simp; done)

end Go.Proofs.Ytminfgfigpiajaa.E

/- The law ErrseqChecks over numbers: what the printed functions answer. -/
import Derived.Test.YtminfgfigpiajaaEQErrseqChecks
set_option linter.unusedSimpArgs false
set_option linter.unusedVariables false
namespace Go.Proofs.Ytminfgfigpiajaa.E
open Go.RowKit Go.Proofs.YtminfgfigpiajaaW.PrintWords Go.Proofs.YtminfgfigpiajaaW.PrintLast

theorem awake_ErrseqChecks : estoverslaw29_awake.f 5 = some true := by decide +kernel
theorem estoverslaw29_ErrseqChecks.pure : estoverslaw29_ErrseqChecks.Pure := by
  intro a b c ha hc
  refine ⟨5, ?_⟩
  unfold estoverslaw29_ErrseqChecks.f
  rw [awake_ErrseqChecks]
  unfold errseq_Check.f estoversref29_Check.f errseq_Valid.f estoversref29_Valid.f
  simp only [errseq_Check.j0, estoversref29_Check.j0]
  by_cases h0 : a ≥ 0 <;> by_cases h1 : a ≤ 1073741824 <;> by_cases h2 : a > 0 <;> by_cases h4 : a = 0 <;> by_cases h5 : c < 0 <;> by_cases h6 : c > a <;> by_cases h7 : c = a <;> cases b <;> first | (exfalso; omega) | (simp [h0, h1, h2, h4, h5, h6, h7]; done) | (subst h4; simp [h5, h6, h7]; done) | (subst h7; simp [h0, h1, h2, h4, h5]; done)

end Go.Proofs.Ytminfgfigpiajaa.E

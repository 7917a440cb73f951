/- The law ErrseqValid over numbers: what the printed functions answer. -/
import Derived.Test.YtminfgfigpiajaaEQErrseqValid
set_option linter.unusedSimpArgs false
set_option linter.unusedVariables false
namespace Go.Proofs.Ytminfgfigpiajaa.E
open Go.RowKit Go.Proofs.YtminfgfigpiajaaW.PrintWords Go.Proofs.YtminfgfigpiajaaW.PrintLast

theorem awake_ErrseqValid : estoverslaw29_awake.f 5 = some true := by decide +kernel
theorem estoverslaw29_ErrseqValid.pure : estoverslaw29_ErrseqValid.Pure := by
  intro a b ha
  refine ⟨5, ?_⟩
  unfold estoverslaw29_ErrseqValid.f
  rw [awake_ErrseqValid]
  unfold errseq_Valid.f estoversref29_Valid.f errseq_New.f
  by_cases h0 : a ≥ 0 <;> by_cases h1 : a ≤ 1073741824 <;> by_cases h2 : a > 0 <;> cases b <;> simp [h0, h1, h2] <;> omega

end Go.Proofs.Ytminfgfigpiajaa.E

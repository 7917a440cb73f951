/- The law IntervalChecks over lists and numbers: a list is valid exactly as specified, or the first error is returned, and Contains decides membership. -/
import Derived.Test.YtkgknibciclmjaaIQIntervalChecks
import Derived.Test.YtkgknibciclmjaaIAL
set_option linter.unusedSimpArgs false
set_option linter.unusedVariables false
namespace Go.Proofs.Ytkgknibciclmjaa.I
open Go.RowKit Go.Proofs.YtkgknibciclmjaaW.PrintWords Go.Proofs.YtkgknibciclmjaaW.PrintLast

theorem estoverslaw02_IntervalChecks.pure : estoverslaw02_IntervalChecks.Pure := by
  intro l a hl ha
  refine Ev.rounds (g := fun k => estoverslaw02_IntervalChecks.f k l a) ?_
  unfold estoverslaw02_IntervalChecks.f
  simp only [few_ev, Option.bind_some]
  by_cases h : l.length ≤ 12
  · refine Ev.yes (by simp [h]) (Ev.bind (check_ev l hl.1) (Ev.bind (refcheck_ev l hl.1) (Ev.yes rfl (Ev.bind (contains_ev l a (by omega)) (Ev.bind (refcontains_ev l a hl.1) (Ev.yes (by simp) (Ev.bind awake_ev (Ev.now _))))))))
  · exact Ev.no (by simp [h]) (Ev.bind awake_ev (Ev.now _))
end Go.Proofs.Ytkgknibciclmjaa.I

/- The law IntervalLaws over lists: the laws of sets, as far as the statement asks them. -/
import Derived.Test.YtkgknibciclmjaaIQIntervalLaws
import Derived.Test.YtkgknibciclmjaaIAL
import Derived.Test.YtkgknibciclmjaaIAS
import Derived.Test.YtkgknibciclmjaaIAN
import Derived.Test.YtkgknibciclmjaaIAD
import Derived.Test.YtkgknibciclmjaaIAG
set_option linter.unusedSimpArgs false
set_option linter.unusedVariables false
namespace Go.Proofs.Ytkgknibciclmjaa.I
open Go.RowKit Go.Proofs.YtkgknibciclmjaaW.PrintWords Go.Proofs.YtkgknibciclmjaaW.PrintLast

theorem laws_skip (a b : List S28) (lo hi n : Int) : Ev (fun k => estoverslaw02_IntervalLaws.j0 k a b true lo hi n) true := by
  refine Ev.next ?_
  simp only [estoverslaw02_IntervalLaws.j0]
  exact Ev.yes trivial (Ev.bind awake_ev (Ev.now _))
theorem estoverslaw02_IntervalLaws.pure : estoverslaw02_IntervalLaws.Pure := by
  intro a b lo hi n hla hlb h0 h1 h2
  refine Ev.rounds (g := fun k => estoverslaw02_IntervalLaws.f k a b lo hi n) ?_
  unfold estoverslaw02_IntervalLaws.f
  simp only [few_ev, Option.bind_some]
  by_cases h : a.length ≤ 12 ∧ b.length ≤ 12
  case neg => exact Ev.no (by simpa using h) (laws_skip a b lo hi n)
  refine Ev.yes (by simpa using h) ?_
  have ha : a.length ≤ maxLen := hla.1
  have hb : b.length ≤ maxLen := hlb.1
  by_cases va : Val a
  case neg => exact Ev.bind (sound_no ha va) (Ev.no (by simp) (laws_skip a b lo hi n))
  refine Ev.bind (sound_yes ha va) (Ev.yes rfl ?_)
  by_cases vb : Val b
  case neg => exact Ev.bind (sound_no hb vb) (Ev.no (by simp) (laws_skip a b lo hi n))
  refine Ev.bind (sound_yes hb vb) (Ev.yes rfl ?_)
  by_cases hlo : lo > hi
  · rw [decide_eq_true hlo]; exact laws_skip a b lo hi n
  rw [decide_eq_false hlo]
  have hle : lo ≤ hi := by omega
  obtain ⟨u, hu, vu, mu, nu⟩ := union_ok a b va vb (by omega)
  obtain ⟨v, hv, vv, mv, nv⟩ := union_ok b a vb va (by omega)
  obtain ⟨i, hi', vi, mi, ni⟩ := inter_ok a b va vb (by omega)
  obtain ⟨j, hj, vj, mj, nj⟩ := inter_ok b a vb va (by omega)
  obtain ⟨d, hd, vd, md, nd⟩ := sub_ok a b va vb (by omega) (by omega)
  have ld : d.length ≤ 156 := by
    have : a.length * (b.length + 1) ≤ 12 * 13 := Nat.mul_le_mul h.1 (by omega)
    omega
  obtain ⟨w, hw, vw, mw, nw⟩ := union_ok d i vd vi (by omega)
  obtain ⟨z, hz, vz, mz, nz⟩ := inter_ok d i vd vi (by omega)
  obtain ⟨g, _, hg, vg, mg, _, ng⟩ := gaps_ok (fun _ => True) u lo hi vu hle (by omega) (ends_any' u) trivial trivial
  obtain ⟨x, _, hx, vx, mx', _, nx⟩ := gaps_ok (fun _ => True) a lo hi va hle (by omega) (ends_any' a) trivial trivial
  obtain ⟨y, _, hy, vy, my, _, ny⟩ := gaps_ok (fun _ => True) b lo hi vb hle (by omega) (ends_any' b) trivial trivial
  obtain ⟨q, hq, vq, mq, nq⟩ := inter_ok x y vx vy (by omega)
  have e1 : u = v := val_unique u v vu vv (fun n => by rw [mu, mv]; exact ⟨Or.symm, Or.symm⟩)
  have e2 : i = j := val_unique i j vi vj (fun n => by rw [mi, mj]; exact ⟨And.symm, And.symm⟩)
  have e3 : w = a := val_unique w a vw va (fun n => by
    rw [mw, md, mi]
    constructor
    · rintro (g | g)
      · exact g.1
      · exact g.1
    · intro g
      by_cases e : mem b n
      · exact .inr ⟨g, e⟩
      · exact .inl ⟨g, e⟩)
  have e4 : z = [] := val_unique z [] vz trivial (fun n => by
    rw [mz, md, mi]
    exact ⟨fun g => absurd g.2.2 g.1.2, fun g => absurd g (mem_nil n)⟩)
  have e5 : g = q := val_unique g q vg vq (fun n => by
    rw [mg, mq, mx', my, mu]
    constructor
    · intro g
      exact ⟨⟨g.1, fun e => g.2 (.inl e)⟩, ⟨g.1, fun e => g.2 (.inr e)⟩⟩
    · intro g
      exact ⟨g.1.1, fun e => e.elim g.1.2 g.2.2⟩)
  have lu : u.length ≤ maxLen := by unfold maxLen; omega
  have li : i.length ≤ maxLen := by unfold maxLen; omega
  have lw : w.length ≤ maxLen := by unfold maxLen; omega
  have lg : g.length ≤ maxLen := by unfold maxLen; omega
  refine Ev.next ?_
  simp only [estoverslaw02_IntervalLaws.j0]
  refine Ev.no (by simp) (Ev.bind hu (Ev.bind hv (Ev.bind hi' (Ev.bind hj (Ev.bind hd (Ev.bind hw (Ev.bind hz (Ev.bind hg (Ev.bind hx (Ev.bind hy (Ev.bind hq ?_)))))))))))
  refine Ev.yes rfl (Ev.bind (same_of e1 lu) (Ev.yes rfl (Ev.bind (same_of e2 li) (Ev.yes rfl (Ev.bind (same_of e3 lw) (Ev.yes rfl (Ev.yes (by rw [e4]; rfl) (Ev.bind (same_of e5 lg) (Ev.yes rfl (Ev.bind awake_ev (Ev.now _)))))))))))
end Go.Proofs.Ytkgknibciclmjaa.I

/- The law FaultplanEnds: every fault ends after at most eight steps, in the access being possible or refused, and it is refused exactly if the first plan refuses it. -/
import Derived.Test.YtfobedaepflidaaFPJ
import Derived.Test.YtfobedaepflidaaF25
set_option linter.unusedSimpArgs false
set_option linter.unusedVariables false
namespace Go.Proofs.Ytfobedaepflidaa.F
open Go.RowKit Go.Proofs.YtfobedaepflidaaW.PrintWords Go.Proofs.YtfobedaepflidaaW.PrintLast

theorem wrap_small (x : Int) (h0 : 0 ≤ x) (h : x < 8) : wrap64 (x + 1) = x + 1 := by
  unfold wrap64
  omega
theorem rank_le (e : Nat) (w1 m0 a0 a3 a4 a5 a6 a8 a9 a10 a11 a12 a13 a14 a15 : Bool) : rankB e w1 m0 a0 a3 a4 a5 a6 a8 a9 a10 a11 a12 a13 a14 a15 ≤ 6 := by
  simp only [rankB, cond_eq_ite]
  repeat' split
  all_goals omega
theorem ends_term (k : Nat) (a0_0 : Bool) (a0_1 : Bool) (a0_2 : Int) (a0_3 : Bool) (a0_4 : Bool) (a0_5 : Bool) (a0_6 : Bool) (a0_7 : Int) (a0_8 : Bool) (a0_9 : Bool) (a0_10 : Bool) (a0_11 : Bool) (a0_12 : Bool) (a0_13 : Bool) (a0_14 : Bool) (a0_15 : Bool) (a0_16 : Int) (x : Int) (p1 p2 p3 p4 p5 : Int) (hc : chk a0_0 a0_1 a0_2 a0_3 a0_4 a0_5 a0_6 a0_7 a0_8 a0_9 a0_10 a0_11 a0_12 a0_13 a0_14 a0_15 a0_16 = 0) (hx : x < 8) (h : (pln a0_0 a0_1 a0_2 a0_3 a0_4 a0_5 a0_6 a0_7 a0_8 a0_9 a0_10 a0_11 a0_12 a0_13 a0_14 a0_15 a0_16).1 = 0 ∨ (pln a0_0 a0_1 a0_2 a0_3 a0_4 a0_5 a0_6 a0_7 a0_8 a0_9 a0_10 a0_11 a0_12 a0_13 a0_14 a0_15 a0_16).1 = 1) (ha : aft a0_0 a0_1 a0_2 a0_3 a0_4 a0_5 a0_6 a0_7 a0_8 a0_9 a0_10 a0_11 a0_12 a0_13 a0_14 a0_15 a0_16 = (a0_0, a0_1, a0_2, a0_3, a0_4, a0_5, a0_6, a0_7, a0_8, a0_9, a0_10, a0_11, a0_12, a0_13, a0_14, a0_15, a0_16, true, 0)) (hp : p1 = 1 ↔ (pln a0_0 a0_1 a0_2 a0_3 a0_4 a0_5 a0_6 a0_7 a0_8 a0_9 a0_10 a0_11 a0_12 a0_13 a0_14 a0_15 a0_16).1 = 1) :
    estoverslaw26_FaultplanEnds.l0 (k + 13) x a0_0 a0_1 a0_2 a0_3 a0_4 a0_5 a0_6 a0_7 a0_8 a0_9 a0_10 a0_11 a0_12 a0_13 a0_14 a0_15 a0_16 p1 p2 p3 p4 p5 = some true := by
  rw [show k + 13 = (k + 12) + 1 from rfl, estoverslaw26_FaultplanEnds.l0]
  have h1 : faultplan_Plan.f (k + 12) a0_0 a0_1 a0_2 a0_3 a0_4 a0_5 a0_6 a0_7 a0_8 a0_9 a0_10 a0_11 a0_12 a0_13 a0_14 a0_15 a0_16 = some (pln a0_0 a0_1 a0_2 a0_3 a0_4 a0_5 a0_6 a0_7 a0_8 a0_9 a0_10 a0_11 a0_12 a0_13 a0_14 a0_15 a0_16) := pln_ev (k + 9) _ _ _ _ _ _ _ _ _ _ _ _ _ _ _ _ _
  have h2 : faultplan_After.f (k + 12) a0_0 a0_1 a0_2 a0_3 a0_4 a0_5 a0_6 a0_7 a0_8 a0_9 a0_10 a0_11 a0_12 a0_13 a0_14 a0_15 a0_16 = some (aft a0_0 a0_1 a0_2 a0_3 a0_4 a0_5 a0_6 a0_7 a0_8 a0_9 a0_10 a0_11 a0_12 a0_13 a0_14 a0_15 a0_16) := aft_ev (k + 9) _ _ _ _ _ _ _ _ _ _ _ _ _ _ _ _ _
  have hw : estoverslaw26_awake.f (k + 11) = some true := awake_ev (k + 1)
  rw [if_pos hx, h1, Option.bind_some, h2, Option.bind_some, if_pos (pln_ok _ _ _ _ _ _ _ _ _ _ _ _ _ _ _ _ _ hc), ha]
  rcases h with h | h
  · have hne : ¬ p1 = 1 := fun hh => by rw [hp.1 hh] at h; cases h
    simp [h, estoverslaw26_FaultplanEnds.j1, hne, hw]
  · have he : p1 = 1 := hp.2 h
    simp [h, estoverslaw26_FaultplanEnds.j1, he, hw]
theorem ends_loop (r : Nat) : ∀ (k e : Nat) (a0_0 : Bool) (a0_1 : Bool) (a0_2 : Int) (a0_3 : Bool) (a0_4 : Bool) (a0_5 : Bool) (a0_6 : Bool) (a0_7 : Int) (a0_8 : Bool) (a0_9 : Bool) (a0_10 : Bool) (a0_11 : Bool) (a0_12 : Bool) (a0_13 : Bool) (a0_14 : Bool) (a0_15 : Bool) (a0_16 : Int) (x : Int) (p1 p2 p3 p4 p5 : Int), V e a0_0 a0_1 a0_2 a0_3 a0_4 a0_5 a0_6 a0_7 a0_8 a0_9 a0_10 a0_11 a0_12 a0_13 a0_14 a0_15 a0_16 → rankB e (a0_2 == 1) (decide (0 < a0_16)) a0_0 a0_3 a0_4 a0_5 a0_6 a0_8 a0_9 a0_10 a0_11 a0_12 a0_13 a0_14 a0_15 ≤ r → 0 ≤ x → x + r < 8 → (p1 = 1 ↔ (pln a0_0 a0_1 a0_2 a0_3 a0_4 a0_5 a0_6 a0_7 a0_8 a0_9 a0_10 a0_11 a0_12 a0_13 a0_14 a0_15 a0_16).1 = 1) →
    estoverslaw26_FaultplanEnds.l0 (k + 2 * r + 13) x a0_0 a0_1 a0_2 a0_3 a0_4 a0_5 a0_6 a0_7 a0_8 a0_9 a0_10 a0_11 a0_12 a0_13 a0_14 a0_15 a0_16 p1 p2 p3 p4 p5 = some true := by
  induction r with
  | zero =>
    intro k e a0_0 a0_1 a0_2 a0_3 a0_4 a0_5 a0_6 a0_7 a0_8 a0_9 a0_10 a0_11 a0_12 a0_13 a0_14 a0_15 a0_16 x p1 p2 p3 p4 p5 hv hr hx0 hx hp
    rcases step e _ _ _ _ _ _ _ _ _ _ _ _ _ _ _ _ _ hv with ⟨h, ha⟩ | ⟨e2, b0, b1, b2, b3, b4, b5, b6, b7, b8, b9, b10, b11, b12, b13, b14, b15, b16, ha, ⟨hv2, hrk, hne2⟩, ⟨hn0, hn1⟩, hpr⟩
    · exact ends_term (k + 2 * 0) _ _ _ _ _ _ _ _ _ _ _ _ _ _ _ _ _ x p1 p2 p3 p4 p5 (V_chk e _ _ _ _ _ _ _ _ _ _ _ _ _ _ _ _ _ hv) (by omega) h ha hp
    · omega
  | succ r ih =>
    intro k e a0_0 a0_1 a0_2 a0_3 a0_4 a0_5 a0_6 a0_7 a0_8 a0_9 a0_10 a0_11 a0_12 a0_13 a0_14 a0_15 a0_16 x p1 p2 p3 p4 p5 hv hr hx0 hx hp
    have hc := V_chk e _ _ _ _ _ _ _ _ _ _ _ _ _ _ _ _ _ hv
    rcases step e _ _ _ _ _ _ _ _ _ _ _ _ _ _ _ _ _ hv with ⟨h, ha⟩ | ⟨e2, b0, b1, b2, b3, b4, b5, b6, b7, b8, b9, b10, b11, b12, b13, b14, b15, b16, ha, ⟨hv2, hrk, hne2⟩, ⟨hn0, hn1⟩, hpr⟩
    · exact ends_term (k + 2 * (r + 1)) _ _ _ _ _ _ _ _ _ _ _ _ _ _ _ _ _ x p1 p2 p3 p4 p5 hc (by omega) h ha hp
    · rw [show k + 2 * (r + 1) + 13 = (k + 2 * r + 14) + 1 from by omega, estoverslaw26_FaultplanEnds.l0]
      have h1 : faultplan_Plan.f (k + 2 * r + 14) a0_0 a0_1 a0_2 a0_3 a0_4 a0_5 a0_6 a0_7 a0_8 a0_9 a0_10 a0_11 a0_12 a0_13 a0_14 a0_15 a0_16 = some (pln a0_0 a0_1 a0_2 a0_3 a0_4 a0_5 a0_6 a0_7 a0_8 a0_9 a0_10 a0_11 a0_12 a0_13 a0_14 a0_15 a0_16) := pln_ev (k + 2 * r + 11) _ _ _ _ _ _ _ _ _ _ _ _ _ _ _ _ _
      have h2 : faultplan_After.f (k + 2 * r + 14) a0_0 a0_1 a0_2 a0_3 a0_4 a0_5 a0_6 a0_7 a0_8 a0_9 a0_10 a0_11 a0_12 a0_13 a0_14 a0_15 a0_16 = some (aft a0_0 a0_1 a0_2 a0_3 a0_4 a0_5 a0_6 a0_7 a0_8 a0_9 a0_10 a0_11 a0_12 a0_13 a0_14 a0_15 a0_16) := aft_ev (k + 2 * r + 11) _ _ _ _ _ _ _ _ _ _ _ _ _ _ _ _ _
      rw [if_pos (by omega : x < 8), h1, Option.bind_some, h2, Option.bind_some, if_pos (pln_ok _ _ _ _ _ _ _ _ _ _ _ _ _ _ _ _ _ hc), ha]
      have hne : ¬ p1 = 1 := fun hh => hn1 (hp.1 hh)
      have hI := ih k e2 b0 b1 b2 b3 b4 b5 b6 b7 b8 b9 b10 b11 b12 b13 b14 b15 b16 (x + 1) p1 p2 p3 p4 p5 hv2 (by omega) (by omega) (by omega) ⟨fun hh => absurd hh hne, fun hh => absurd hh hne2⟩
      simp only [if_neg hn0, if_neg hn1, Bool.false_eq_true, if_true, if_false]
      rw [show k + 2 * r + 14 = (k + 2 * r + 13) + 1 from rfl, estoverslaw26_FaultplanEnds.j1]
      simp only [Bool.false_eq_true, if_false, wrap_small x hx0 (by omega)]
      exact hI
end Go.Proofs.Ytfobedaepflidaa.F

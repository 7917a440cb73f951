/- The law FaultplanPrivate: on the way to the end of a fault, a private region never makes the page of the file dirty, and a shared region never copies it and never leads to memory of the process's own. -/
import Derived.Test.YtfobedaepflidaaFPJ
import Derived.Test.YtfobedaepflidaaF28
set_option linter.unusedSimpArgs false
set_option linter.unusedVariables false
namespace Go.Proofs.Ytfobedaepflidaa.F
open Go.RowKit Go.Proofs.YtfobedaepflidaaW.PrintWords Go.Proofs.YtfobedaepflidaaW.PrintLast

theorem wrap_small8 (x : Int) (h0 : 0 ≤ x) (h : x < 8) : wrap64 (x + 1) = x + 1 := by
  unfold wrap64
  omega
theorem rank_le6 (e : Nat) (w1 m0 a0 a3 a4 a5 a6 a8 a9 a10 a11 a12 a13 a14 a15 : Bool) : rankB e w1 m0 a0 a3 a4 a5 a6 a8 a9 a10 a11 a12 a13 a14 a15 ≤ 6 := by
  simp only [rankB, cond_eq_ite]
  repeat' split
  all_goals omega
theorem priv_term (k : Nat) (d : Bool) (a0_0 : Bool) (a0_1 : Bool) (a0_2 : Int) (a0_3 : Bool) (a0_4 : Bool) (a0_5 : Bool) (a0_6 : Bool) (a0_7 : Int) (a0_8 : Bool) (a0_9 : Bool) (a0_10 : Bool) (a0_11 : Bool) (a0_12 : Bool) (a0_13 : Bool) (a0_14 : Bool) (a0_15 : Bool) (a0_16 : Int) (x : Int) (hc : chk a0_0 a0_1 a0_2 a0_3 a0_4 a0_5 a0_6 a0_7 a0_8 a0_9 a0_10 a0_11 a0_12 a0_13 a0_14 a0_15 a0_16 = 0) (hx : x < 8) (h : (pln a0_0 a0_1 a0_2 a0_3 a0_4 a0_5 a0_6 a0_7 a0_8 a0_9 a0_10 a0_11 a0_12 a0_13 a0_14 a0_15 a0_16).1 = 0 ∨ (pln a0_0 a0_1 a0_2 a0_3 a0_4 a0_5 a0_6 a0_7 a0_8 a0_9 a0_10 a0_11 a0_12 a0_13 a0_14 a0_15 a0_16).1 = 1) (ha : aft a0_0 a0_1 a0_2 a0_3 a0_4 a0_5 a0_6 a0_7 a0_8 a0_9 a0_10 a0_11 a0_12 a0_13 a0_14 a0_15 a0_16 = (a0_0, a0_1, a0_2, a0_3, a0_4, a0_5, a0_6, a0_7, a0_8, a0_9, a0_10, a0_11, a0_12, a0_13, a0_14, a0_15, a0_16, true, 0)) (hd : a0_3 = false → a0_14 = d) (hs : a0_3 = true → a0_10 = false) :
    estoverslaw26_FaultplanPrivate.l0 (k + 14) d x a0_0 a0_1 a0_2 a0_3 a0_4 a0_5 a0_6 a0_7 a0_8 a0_9 a0_10 a0_11 a0_12 a0_13 a0_14 a0_15 a0_16 = some true := by
  rw [show k + 14 = (k + 13) + 1 from rfl, estoverslaw26_FaultplanPrivate.l0]
  have h1 : faultplan_Plan.f (k + 13) a0_0 a0_1 a0_2 a0_3 a0_4 a0_5 a0_6 a0_7 a0_8 a0_9 a0_10 a0_11 a0_12 a0_13 a0_14 a0_15 a0_16 = some (pln a0_0 a0_1 a0_2 a0_3 a0_4 a0_5 a0_6 a0_7 a0_8 a0_9 a0_10 a0_11 a0_12 a0_13 a0_14 a0_15 a0_16) := pln_ev (k + 10) _ _ _ _ _ _ _ _ _ _ _ _ _ _ _ _ _
  have h2 : faultplan_After.f (k + 13) a0_0 a0_1 a0_2 a0_3 a0_4 a0_5 a0_6 a0_7 a0_8 a0_9 a0_10 a0_11 a0_12 a0_13 a0_14 a0_15 a0_16 = some (aft a0_0 a0_1 a0_2 a0_3 a0_4 a0_5 a0_6 a0_7 a0_8 a0_9 a0_10 a0_11 a0_12 a0_13 a0_14 a0_15 a0_16) := aft_ev (k + 10) _ _ _ _ _ _ _ _ _ _ _ _ _ _ _ _ _
  have hw : estoverslaw26_awake.f (k + 11) = some true := awake_ev (k + 1)
  have hn7 : ¬ (pln a0_0 a0_1 a0_2 a0_3 a0_4 a0_5 a0_6 a0_7 a0_8 a0_9 a0_10 a0_11 a0_12 a0_13 a0_14 a0_15 a0_16).1 = 7 := by omega
  have hn9 : ¬ (pln a0_0 a0_1 a0_2 a0_3 a0_4 a0_5 a0_6 a0_7 a0_8 a0_9 a0_10 a0_11 a0_12 a0_13 a0_14 a0_15 a0_16).1 = 9 := by omega
  rw [if_pos hx, h1, Option.bind_some, h2, Option.bind_some, if_pos (pln_ok _ _ _ _ _ _ _ _ _ _ _ _ _ _ _ _ _ hc), ha]
  cases a0_3
  · have h14 := hd rfl
    subst h14
    simp [hn7, estoverslaw26_FaultplanPrivate.j2, estoverslaw26_FaultplanPrivate.j3, hw]
  · have h10 := hs rfl
    subst h10
    simp [hn9, estoverslaw26_FaultplanPrivate.j2, estoverslaw26_FaultplanPrivate.j3, hw]
theorem V_own (e : Nat) (a0_0 : Bool) (a0_1 : Bool) (a0_2 : Int) (a0_3 : Bool) (a0_4 : Bool) (a0_5 : Bool) (a0_6 : Bool) (a0_7 : Int) (a0_8 : Bool) (a0_9 : Bool) (a0_10 : Bool) (a0_11 : Bool) (a0_12 : Bool) (a0_13 : Bool) (a0_14 : Bool) (a0_15 : Bool) (a0_16 : Int) (h : V e a0_0 a0_1 a0_2 a0_3 a0_4 a0_5 a0_6 a0_7 a0_8 a0_9 a0_10 a0_11 a0_12 a0_13 a0_14 a0_15 a0_16) : a0_3 = true → a0_10 = false := by
  intro h3
  have hb := h.2.2.2.2.2.2
  unfold badB at hb
  simp only [Bool.or_eq_false_iff] at hb
  have h6 := hb.2.2.2.2.2.1
  rw [h3] at h6
  exact h6
theorem priv_loop (d : Bool) (r : Nat) : ∀ (k e : Nat) (a0_0 : Bool) (a0_1 : Bool) (a0_2 : Int) (a0_3 : Bool) (a0_4 : Bool) (a0_5 : Bool) (a0_6 : Bool) (a0_7 : Int) (a0_8 : Bool) (a0_9 : Bool) (a0_10 : Bool) (a0_11 : Bool) (a0_12 : Bool) (a0_13 : Bool) (a0_14 : Bool) (a0_15 : Bool) (a0_16 : Int) (x : Int), V e a0_0 a0_1 a0_2 a0_3 a0_4 a0_5 a0_6 a0_7 a0_8 a0_9 a0_10 a0_11 a0_12 a0_13 a0_14 a0_15 a0_16 → rankB e (a0_2 == 1) (decide (0 < a0_16)) a0_0 a0_3 a0_4 a0_5 a0_6 a0_8 a0_9 a0_10 a0_11 a0_12 a0_13 a0_14 a0_15 ≤ r → 0 ≤ x → x + r < 8 → (a0_3 = false → a0_14 = d) →
    estoverslaw26_FaultplanPrivate.l0 (k + 3 * r + 14) d x a0_0 a0_1 a0_2 a0_3 a0_4 a0_5 a0_6 a0_7 a0_8 a0_9 a0_10 a0_11 a0_12 a0_13 a0_14 a0_15 a0_16 = some true := by
  induction r with
  | zero =>
    intro k e a0_0 a0_1 a0_2 a0_3 a0_4 a0_5 a0_6 a0_7 a0_8 a0_9 a0_10 a0_11 a0_12 a0_13 a0_14 a0_15 a0_16 x hv hr hx0 hx hd
    rcases step e _ _ _ _ _ _ _ _ _ _ _ _ _ _ _ _ _ hv with ⟨h, ha⟩ | ⟨e2, b0, b1, b2, b3, b4, b5, b6, b7, b8, b9, b10, b11, b12, b13, b14, b15, b16, ha, ⟨hv2, hrk, hne2⟩, ⟨hn0, hn1⟩, hpr⟩
    · exact priv_term (k + 3 * 0) d _ _ _ _ _ _ _ _ _ _ _ _ _ _ _ _ _ x (V_chk e _ _ _ _ _ _ _ _ _ _ _ _ _ _ _ _ _ hv) (by omega) h ha hd (V_own e _ _ _ _ _ _ _ _ _ _ _ _ _ _ _ _ _ hv)
    · omega
  | succ r ih =>
    intro k e a0_0 a0_1 a0_2 a0_3 a0_4 a0_5 a0_6 a0_7 a0_8 a0_9 a0_10 a0_11 a0_12 a0_13 a0_14 a0_15 a0_16 x hv hr hx0 hx hd
    have hc := V_chk e _ _ _ _ _ _ _ _ _ _ _ _ _ _ _ _ _ hv
    rcases step e _ _ _ _ _ _ _ _ _ _ _ _ _ _ _ _ _ hv with ⟨h, ha⟩ | ⟨e2, b0, b1, b2, b3, b4, b5, b6, b7, b8, b9, b10, b11, b12, b13, b14, b15, b16, ha, ⟨hv2, hrk, hne2⟩, ⟨hn0, hn1⟩, hp7, hp9, h3⟩
    · exact priv_term (k + 3 * (r + 1)) d _ _ _ _ _ _ _ _ _ _ _ _ _ _ _ _ _ x hc (by omega) h ha hd (V_own e _ _ _ _ _ _ _ _ _ _ _ _ _ _ _ _ _ hv)
    · rw [show k + 3 * (r + 1) + 14 = (k + 3 * r + 16) + 1 from by omega, estoverslaw26_FaultplanPrivate.l0]
      have h1 : faultplan_Plan.f (k + 3 * r + 16) a0_0 a0_1 a0_2 a0_3 a0_4 a0_5 a0_6 a0_7 a0_8 a0_9 a0_10 a0_11 a0_12 a0_13 a0_14 a0_15 a0_16 = some (pln a0_0 a0_1 a0_2 a0_3 a0_4 a0_5 a0_6 a0_7 a0_8 a0_9 a0_10 a0_11 a0_12 a0_13 a0_14 a0_15 a0_16) := pln_ev (k + 3 * r + 13) _ _ _ _ _ _ _ _ _ _ _ _ _ _ _ _ _
      have h2 : faultplan_After.f (k + 3 * r + 16) a0_0 a0_1 a0_2 a0_3 a0_4 a0_5 a0_6 a0_7 a0_8 a0_9 a0_10 a0_11 a0_12 a0_13 a0_14 a0_15 a0_16 = some (aft a0_0 a0_1 a0_2 a0_3 a0_4 a0_5 a0_6 a0_7 a0_8 a0_9 a0_10 a0_11 a0_12 a0_13 a0_14 a0_15 a0_16) := aft_ev (k + 3 * r + 13) _ _ _ _ _ _ _ _ _ _ _ _ _ _ _ _ _
      rw [if_pos (by omega : x < 8), h1, Option.bind_some, h2, Option.bind_some, if_pos (pln_ok _ _ _ _ _ _ _ _ _ _ _ _ _ _ _ _ _ hc), ha]
      have hI := ih k e2 b0 b1 b2 b3 b4 b5 b6 b7 b8 b9 b10 b11 b12 b13 b14 b15 b16 (x + 1) hv2 (by omega) (by omega) (by omega) (fun hh => by rw [h3] at hh; rw [(hp7 hh).2]; exact hd hh)
      rw [show k + 3 * r + 16 = ((k + 3 * r + 14) + 1) + 1 from rfl]
      cases a0_3
      · have q := hp7 rfl
        have hd' := hd rfl
        have hq : (b14 != d) = false := by rw [q.2, hd']; cases d <;> rfl
        simp [estoverslaw26_FaultplanPrivate.j2, estoverslaw26_FaultplanPrivate.j3, q.1, hq, wrap_small8 x hx0 (by omega), hI]
      · have q := hp9 rfl
        have hq := q.2
        subst hq
        simp [estoverslaw26_FaultplanPrivate.j2, estoverslaw26_FaultplanPrivate.j3, q.1, wrap_small8 x hx0 (by omega), hI]
end Go.Proofs.Ytfobedaepflidaa.F

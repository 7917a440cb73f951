/- Of the faultplan laws: a step is the last, or leaves a case that fits together and is nearer to the end. -/
import Derived.Test.YtfobedaepflidaaFPG
import Derived.Test.YtfobedaepflidaaFPI
set_option linter.unusedSimpArgs false
set_option linter.unusedVariables false
namespace Go.Proofs.Ytfobedaepflidaa.F
open Go.RowKit Go.Proofs.YtfobedaepflidaaW.PrintWords Go.Proofs.YtfobedaepflidaaW.PrintLast

def V (e : Nat) (a0_0 : Bool) (a0_1 : Bool) (a0_2 : Int) (a0_3 : Bool) (a0_4 : Bool) (a0_5 : Bool) (a0_6 : Bool) (a0_7 : Int) (a0_8 : Bool) (a0_9 : Bool) (a0_10 : Bool) (a0_11 : Bool) (a0_12 : Bool) (a0_13 : Bool) (a0_14 : Bool) (a0_15 : Bool) (a0_16 : Int) : Prop := a0_7 = (e : Int) ∧ (e = 0 ∨ e = 1 ∨ e = 2 ∨ e = 3) ∧ a0_1 = true ∧ 0 ≤ a0_16 ∧ a0_16 ≤ 2 ∧ (a0_2 = 1 ∨ a0_2 = 3) ∧ badB e (a0_2 == 1) (decide (0 < a0_16)) a0_0 a0_3 a0_4 a0_5 a0_6 a0_8 a0_9 a0_10 a0_11 a0_12 a0_13 a0_14 a0_15 = false
theorem bif_neg {α : Type} {c : Bool} (h : c = false) {a b : α} : (bif c then a else b) = b := by rw [h]; rfl
theorem bif_pos {α : Type} {c : Bool} (h : c = true) {a b : α} : (bif c then a else b) = a := by rw [h]; rfl
theorem st_all (e : Nat) (he : e = 0 ∨ e = 1 ∨ e = 2 ∨ e = 3) (w1 m0 a0 a3 a4 a5 a6 a8 a9 a10 a11 a12 a13 a14 a15 : Bool) (h : badB e w1 m0 a0 a3 a4 a5 a6 a8 a9 a10 a11 a12 a13 a14 a15 = false) : stepB e w1 m0 a0 a3 a4 a5 a6 a8 a9 a10 a11 a12 a13 a14 a15 = true := by
  have h2 : (badB e w1 m0 a0 a3 a4 a5 a6 a8 a9 a10 a11 a12 a13 a14 a15 || stepB e w1 m0 a0 a3 a4 a5 a6 a8 a9 a10 a11 a12 a13 a14 a15) = true := by
    rcases he with rfl | rfl | rfl | rfl
    · exact allB_of (allB_of (allB_of (allB_of (allB_of (allB_of (allB_of (allB_of (allB_of (allB_of (allB_of (allB_of (allB_of (allB_of (allB_of all_0 w1) m0) a0) a3) a4) a5) a6) a8) a9) a10) a11) a12) a13) a14) a15
    · exact allB_of (allB_of (allB_of (allB_of (allB_of (allB_of (allB_of (allB_of (allB_of (allB_of (allB_of (allB_of (allB_of (allB_of (allB_of all_1 w1) m0) a0) a3) a4) a5) a6) a8) a9) a10) a11) a12) a13) a14) a15
    · exact allB_of (allB_of (allB_of (allB_of (allB_of (allB_of (allB_of (allB_of (allB_of (allB_of (allB_of (allB_of (allB_of (allB_of (allB_of all_2 w1) m0) a0) a3) a4) a5) a6) a8) a9) a10) a11) a12) a13) a14) a15
    · exact allB_of (allB_of (allB_of (allB_of (allB_of (allB_of (allB_of (allB_of (allB_of (allB_of (allB_of (allB_of (allB_of (allB_of (allB_of all_3 w1) m0) a0) a3) a4) a5) a6) a8) a9) a10) a11) a12) a13) a14) a15
  rw [h, Bool.false_or] at h2
  exact h2
theorem bad_eq (e : Nat) (a0_0 : Bool) (a0_1 : Bool) (a0_2 : Int) (a0_3 : Bool) (a0_4 : Bool) (a0_5 : Bool) (a0_6 : Bool) (a0_7 : Int) (a0_8 : Bool) (a0_9 : Bool) (a0_10 : Bool) (a0_11 : Bool) (a0_12 : Bool) (a0_13 : Bool) (a0_14 : Bool) (a0_15 : Bool) (a0_16 : Int) (h7 : a0_7 = (e : Int)) (he : e = 0 ∨ e = 1 ∨ e = 2 ∨ e = 3) : (faultplan_suits.bad a0_0 a0_1 a0_2 a0_3 a0_4 a0_5 a0_6 a0_7 a0_8 a0_9 a0_10 a0_11 a0_12 a0_13 a0_14 a0_15 a0_16).any id = badB e (a0_2 == 1) (decide (0 < a0_16)) a0_0 a0_3 a0_4 a0_5 a0_6 a0_8 a0_9 a0_10 a0_11 a0_12 a0_13 a0_14 a0_15 := by
  rcases he with rfl | rfl | rfl | rfl <;> subst h7 <;> rfl
theorem prB_out {i : Nat} {a3 a14 b10 b14 : Bool} (h : prB i a3 a14 b10 b14 = true) : (a3 = false → i ≠ 9 ∧ b14 = a14) ∧ (a3 = true → i ≠ 7 ∧ b10 = false) := by
  unfold prB at h
  cases a3
  · refine ⟨fun _ => ?_, fun h2 => (by cases h2)⟩
    simpa using h
  · refine ⟨fun h2 => (by cases h2), fun _ => ?_⟩
    simpa using h
theorem V_chk (e : Nat) (a0_0 : Bool) (a0_1 : Bool) (a0_2 : Int) (a0_3 : Bool) (a0_4 : Bool) (a0_5 : Bool) (a0_6 : Bool) (a0_7 : Int) (a0_8 : Bool) (a0_9 : Bool) (a0_10 : Bool) (a0_11 : Bool) (a0_12 : Bool) (a0_13 : Bool) (a0_14 : Bool) (a0_15 : Bool) (a0_16 : Int) (h : V e a0_0 a0_1 a0_2 a0_3 a0_4 a0_5 a0_6 a0_7 a0_8 a0_9 a0_10 a0_11 a0_12 a0_13 a0_14 a0_15 a0_16) : chk a0_0 a0_1 a0_2 a0_3 a0_4 a0_5 a0_6 a0_7 a0_8 a0_9 a0_10 a0_11 a0_12 a0_13 a0_14 a0_15 a0_16 = 0 := by
  obtain ⟨h7, he, h1, hm0, hm2, hpr, hb⟩ := h
  unfold chk
  rw [if_pos (by omega : a0_7 = 0 ∨ a0_7 = 1 ∨ a0_7 = 2 ∨ a0_7 = 3), if_neg (by omega : ¬ (a0_16 < 0 ∨ 2 < a0_16)), if_pos h1, if_pos hpr, bad_eq e _ _ _ _ _ _ _ _ _ _ _ _ _ _ _ _ _ h7 he, hb]
  rfl
theorem chk_V (a0_0 : Bool) (a0_1 : Bool) (a0_2 : Int) (a0_3 : Bool) (a0_4 : Bool) (a0_5 : Bool) (a0_6 : Bool) (a0_7 : Int) (a0_8 : Bool) (a0_9 : Bool) (a0_10 : Bool) (a0_11 : Bool) (a0_12 : Bool) (a0_13 : Bool) (a0_14 : Bool) (a0_15 : Bool) (a0_16 : Int) (h : chk a0_0 a0_1 a0_2 a0_3 a0_4 a0_5 a0_6 a0_7 a0_8 a0_9 a0_10 a0_11 a0_12 a0_13 a0_14 a0_15 a0_16 = 0) (h1 : a0_1 = true) : ∃ e, V e a0_0 a0_1 a0_2 a0_3 a0_4 a0_5 a0_6 a0_7 a0_8 a0_9 a0_10 a0_11 a0_12 a0_13 a0_14 a0_15 a0_16 := by
  have hen := chk_entry _ _ _ _ _ _ _ _ _ _ _ _ _ _ _ _ _ h
  have key : ∃ e : Nat, a0_7 = (e : Int) ∧ (e = 0 ∨ e = 1 ∨ e = 2 ∨ e = 3) := ⟨a0_7.toNat, by omega, by omega⟩
  obtain ⟨e, h7, he⟩ := key
  refine ⟨e, h7, he, h1, ?_⟩
  unfold chk at h
  rw [if_pos hen] at h
  by_cases hm : a0_16 < 0 ∨ 2 < a0_16
  · rw [if_pos hm] at h
    cases h
  · rw [if_neg hm, if_pos h1] at h
    split at h
    · split at h
      · cases h
      · refine ⟨by omega, by omega, by assumption, ?_⟩
        rw [← bad_eq e _ _ _ _ _ _ _ _ _ _ _ _ _ _ _ _ _ h7 he]
        simpa using ‹¬ (faultplan_suits.bad a0_0 a0_1 a0_2 a0_3 a0_4 a0_5 a0_6 a0_7 a0_8 a0_9 a0_10 a0_11 a0_12 a0_13 a0_14 a0_15 a0_16).any id = true›
    · cases h
theorem own_e (e : Nat) (a0_7 : Int) (a0_10 : Bool) (h7 : a0_7 = (e : Int)) (he : e = 0 ∨ e = 1 ∨ e = 2 ∨ e = 3) : own a0_7 a0_10 = ((e == 2) || (((e == 1) || (e == 3)) && a0_10)) := by
  rcases he with rfl | rfl | rfl | rfl <;> subst h7 <;> rfl
theorem noerr (e : Nat) (a0_0 : Bool) (a0_1 : Bool) (a0_2 : Int) (a0_3 : Bool) (a0_4 : Bool) (a0_5 : Bool) (a0_6 : Bool) (a0_7 : Int) (a0_8 : Bool) (a0_9 : Bool) (a0_10 : Bool) (a0_11 : Bool) (a0_12 : Bool) (a0_13 : Bool) (a0_14 : Bool) (a0_15 : Bool) (a0_16 : Int) (h : V e a0_0 a0_1 a0_2 a0_3 a0_4 a0_5 a0_6 a0_7 a0_8 a0_9 a0_10 a0_11 a0_12 a0_13 a0_14 a0_15 a0_16) (hr : 2 < ruleB e (a0_2 == 1) (decide (0 < a0_16)) a0_0 a0_3 a0_4 a0_5 a0_6 a0_8 a0_9 a0_10 a0_11 a0_12 a0_13 a0_14 a0_15) : (pln a0_0 a0_1 a0_2 a0_3 a0_4 a0_5 a0_6 a0_7 a0_8 a0_9 a0_10 a0_11 a0_12 a0_13 a0_14 a0_15 a0_16).1 ≠ 1 := by
  have hc := V_chk e _ _ _ _ _ _ _ _ _ _ _ _ _ _ _ _ _ h
  obtain ⟨h7, he, h1, hm0, hm2, hpr, hb⟩ := h
  rw [pln_eq _ _ _ _ _ _ _ _ _ _ _ _ _ _ _ _ _ hc]
  have ho := own_e e a0_7 a0_10 h7 he
  apply rule_cases (P := fun u => u.1 ≠ 1)
  · intro t0; rw [h1] at t0; cases t0
  · intro t0 t1
    exact absurd hr (by rw [ruleB, bif_pos t1]; omega)
  · intro t0 t1 t2
    rw [ho] at t2
    exact absurd hr (by rw [ruleB, bif_neg t1, bif_pos t2]; omega)
  all_goals (intros; dsimp only; decide)
theorem fin_ok (e : Nat) (a0_0 : Bool) (a0_1 : Bool) (a0_2 : Int) (a0_3 : Bool) (a0_4 : Bool) (a0_5 : Bool) (a0_6 : Bool) (a0_7 : Int) (a0_8 : Bool) (a0_9 : Bool) (a0_10 : Bool) (a0_11 : Bool) (a0_12 : Bool) (a0_13 : Bool) (a0_14 : Bool) (a0_15 : Bool) (a0_16 : Int) (r : Nat) (h7 : a0_7 = (e : Int)) (he : e = 0 ∨ e = 1 ∨ e = 2 ∨ e = 3) (h1 : a0_1 = true) (hm0 : 0 ≤ a0_16) (hm2 : a0_16 ≤ 2) (hpr : a0_2 = 1 ∨ a0_2 = 3) (hk : okB r e (a0_2 == 1) (decide (0 < a0_16)) a0_0 a0_3 a0_4 a0_5 a0_6 a0_8 a0_9 a0_10 a0_11 a0_12 a0_13 a0_14 a0_15 = true) :
    V e a0_0 a0_1 a0_2 a0_3 a0_4 a0_5 a0_6 a0_7 a0_8 a0_9 a0_10 a0_11 a0_12 a0_13 a0_14 a0_15 a0_16 ∧ rankB e (a0_2 == 1) (decide (0 < a0_16)) a0_0 a0_3 a0_4 a0_5 a0_6 a0_8 a0_9 a0_10 a0_11 a0_12 a0_13 a0_14 a0_15 < r ∧ (pln a0_0 a0_1 a0_2 a0_3 a0_4 a0_5 a0_6 a0_7 a0_8 a0_9 a0_10 a0_11 a0_12 a0_13 a0_14 a0_15 a0_16).1 ≠ 1 := by
  unfold okB at hk
  simp only [Bool.and_eq_true, Bool.not_eq_true', Nat.blt_eq] at hk
  have hv : V e a0_0 a0_1 a0_2 a0_3 a0_4 a0_5 a0_6 a0_7 a0_8 a0_9 a0_10 a0_11 a0_12 a0_13 a0_14 a0_15 a0_16 := ⟨h7, he, h1, hm0, hm2, hpr, hk.1.1⟩
  exact ⟨hv, hk.1.2, noerr e _ _ _ _ _ _ _ _ _ _ _ _ _ _ _ _ _ hv hk.2⟩
set_option maxHeartbeats 4000000 in
theorem step (e : Nat) (a0_0 : Bool) (a0_1 : Bool) (a0_2 : Int) (a0_3 : Bool) (a0_4 : Bool) (a0_5 : Bool) (a0_6 : Bool) (a0_7 : Int) (a0_8 : Bool) (a0_9 : Bool) (a0_10 : Bool) (a0_11 : Bool) (a0_12 : Bool) (a0_13 : Bool) (a0_14 : Bool) (a0_15 : Bool) (a0_16 : Int) (h : V e a0_0 a0_1 a0_2 a0_3 a0_4 a0_5 a0_6 a0_7 a0_8 a0_9 a0_10 a0_11 a0_12 a0_13 a0_14 a0_15 a0_16) : (((pln a0_0 a0_1 a0_2 a0_3 a0_4 a0_5 a0_6 a0_7 a0_8 a0_9 a0_10 a0_11 a0_12 a0_13 a0_14 a0_15 a0_16).1 = 0 ∨ (pln a0_0 a0_1 a0_2 a0_3 a0_4 a0_5 a0_6 a0_7 a0_8 a0_9 a0_10 a0_11 a0_12 a0_13 a0_14 a0_15 a0_16).1 = 1) ∧ aft a0_0 a0_1 a0_2 a0_3 a0_4 a0_5 a0_6 a0_7 a0_8 a0_9 a0_10 a0_11 a0_12 a0_13 a0_14 a0_15 a0_16 = (a0_0, a0_1, a0_2, a0_3, a0_4, a0_5, a0_6, a0_7, a0_8, a0_9, a0_10, a0_11, a0_12, a0_13, a0_14, a0_15, a0_16, true, 0)) ∨
    ∃ (e2 : Nat) (b0 : Bool) (b1 : Bool) (b2 : Int) (b3 : Bool) (b4 : Bool) (b5 : Bool) (b6 : Bool) (b7 : Int) (b8 : Bool) (b9 : Bool) (b10 : Bool) (b11 : Bool) (b12 : Bool) (b13 : Bool) (b14 : Bool) (b15 : Bool) (b16 : Int), aft a0_0 a0_1 a0_2 a0_3 a0_4 a0_5 a0_6 a0_7 a0_8 a0_9 a0_10 a0_11 a0_12 a0_13 a0_14 a0_15 a0_16 = (b0, b1, b2, b3, b4, b5, b6, b7, b8, b9, b10, b11, b12, b13, b14, b15, b16, false, 0) ∧ (V e2 b0 b1 b2 b3 b4 b5 b6 b7 b8 b9 b10 b11 b12 b13 b14 b15 b16 ∧ rankB e2 (b2 == 1) (decide (0 < b16)) b0 b3 b4 b5 b6 b8 b9 b10 b11 b12 b13 b14 b15 < rankB e (a0_2 == 1) (decide (0 < a0_16)) a0_0 a0_3 a0_4 a0_5 a0_6 a0_8 a0_9 a0_10 a0_11 a0_12 a0_13 a0_14 a0_15 ∧ (pln b0 b1 b2 b3 b4 b5 b6 b7 b8 b9 b10 b11 b12 b13 b14 b15 b16).1 ≠ 1) ∧ ((pln a0_0 a0_1 a0_2 a0_3 a0_4 a0_5 a0_6 a0_7 a0_8 a0_9 a0_10 a0_11 a0_12 a0_13 a0_14 a0_15 a0_16).1 ≠ 0 ∧ (pln a0_0 a0_1 a0_2 a0_3 a0_4 a0_5 a0_6 a0_7 a0_8 a0_9 a0_10 a0_11 a0_12 a0_13 a0_14 a0_15 a0_16).1 ≠ 1) ∧ (a0_3 = false → (pln a0_0 a0_1 a0_2 a0_3 a0_4 a0_5 a0_6 a0_7 a0_8 a0_9 a0_10 a0_11 a0_12 a0_13 a0_14 a0_15 a0_16).1 ≠ 7 ∧ b14 = a0_14) ∧ (a0_3 = true → (pln a0_0 a0_1 a0_2 a0_3 a0_4 a0_5 a0_6 a0_7 a0_8 a0_9 a0_10 a0_11 a0_12 a0_13 a0_14 a0_15 a0_16).1 ≠ 9 ∧ b10 = false) ∧ b3 = a0_3 := by
  have hc := V_chk e _ _ _ _ _ _ _ _ _ _ _ _ _ _ _ _ _ h
  obtain ⟨h7e, he, h1, hm0, hm2, hpr, hb⟩ := h
  have hp : (a0_7 == 1) = (e == 1) := by rcases he with rfl | rfl | rfl | rfl <;> subst h7e <;> rfl
  have hs : (a0_7 == 2) = (e == 2) := by rcases he with rfl | rfl | rfl | rfl <;> subst h7e <;> rfl
  have ho := own_e e a0_7 a0_10 h7e he
  have hw13 : (a0_2 == 3) = !(a0_2 == 1) := by rcases hpr with rfl | rfl <;> rfl
  rcases Bool.eq_false_or_eq_true ((a0_0 && (a0_2 == 1))) with t1 | t1
  · have hi : ruleB e (a0_2 == 1) (decide (0 < a0_16)) a0_0 a0_3 a0_4 a0_5 a0_6 a0_8 a0_9 a0_10 a0_11 a0_12 a0_13 a0_14 a0_15 = 1 := by rw [ruleB, bif_pos t1]
    have hu : pln a0_0 a0_1 a0_2 a0_3 a0_4 a0_5 a0_6 a0_7 a0_8 a0_9 a0_10 a0_11 a0_12 a0_13 a0_14 a0_15 a0_16 = (1, 12, 0, 0, 0, 0) := by
      rw [pln_eq _ _ _ _ _ _ _ _ _ _ _ _ _ _ _ _ _ hc, rule, hp, hs, ho, if_neg (show ¬ (!a0_1) = true by rw [h1]; decide), if_pos t1]
    have hu2 : out a0_0 a0_1 a0_2 a0_3 a0_4 a0_5 a0_6 a0_7 a0_8 a0_9 a0_10 a0_11 a0_12 a0_13 a0_14 a0_15 a0_16 = (a0_0, a0_1, a0_2, a0_3, a0_4, a0_5, a0_6, a0_7, a0_8, a0_9, a0_10, a0_11, a0_12, a0_13, a0_14, a0_15, a0_16, true, 0) := by
      rw [out, hp, hs, ho, if_neg (show ¬ (!a0_1) = true by rw [h1]; decide), if_pos t1]
    exact Or.inl ⟨by rw [hu]; decide, by rw [aft, if_pos hc, hu2]⟩
  rcases Bool.eq_false_or_eq_true ((a0_5 && !((e == 2) || (((e == 1) || (e == 3)) && a0_10)))) with t2 | t2
  · have hi : ruleB e (a0_2 == 1) (decide (0 < a0_16)) a0_0 a0_3 a0_4 a0_5 a0_6 a0_8 a0_9 a0_10 a0_11 a0_12 a0_13 a0_14 a0_15 = 2 := by rw [ruleB, bif_neg t1, bif_pos t2]
    have hu : pln a0_0 a0_1 a0_2 a0_3 a0_4 a0_5 a0_6 a0_7 a0_8 a0_9 a0_10 a0_11 a0_12 a0_13 a0_14 a0_15 a0_16 = (1, 14, 0, 0, 0, 0) := by
      rw [pln_eq _ _ _ _ _ _ _ _ _ _ _ _ _ _ _ _ _ hc, rule, hp, hs, ho, if_neg (show ¬ (!a0_1) = true by rw [h1]; decide), if_neg (Bool.eq_false_iff.mp t1), if_pos t2]
    have hu2 : out a0_0 a0_1 a0_2 a0_3 a0_4 a0_5 a0_6 a0_7 a0_8 a0_9 a0_10 a0_11 a0_12 a0_13 a0_14 a0_15 a0_16 = (a0_0, a0_1, a0_2, a0_3, a0_4, a0_5, a0_6, a0_7, a0_8, a0_9, a0_10, a0_11, a0_12, a0_13, a0_14, a0_15, a0_16, true, 0) := by
      rw [out, hp, hs, ho, if_neg (show ¬ (!a0_1) = true by rw [h1]; decide), if_neg (Bool.eq_false_iff.mp t1), if_pos t2]
    exact Or.inl ⟨by rw [hu]; decide, by rw [aft, if_pos hc, hu2]⟩
  rcases Bool.eq_false_or_eq_true (((e == 1) && (!a0_0 || a0_8))) with t3 | t3
  · have hi : ruleB e (a0_2 == 1) (decide (0 < a0_16)) a0_0 a0_3 a0_4 a0_5 a0_6 a0_8 a0_9 a0_10 a0_11 a0_12 a0_13 a0_14 a0_15 = 3 := by rw [ruleB, bif_neg t1, bif_neg t2, bif_pos t3]
    have hu : pln a0_0 a0_1 a0_2 a0_3 a0_4 a0_5 a0_6 a0_7 a0_8 a0_9 a0_10 a0_11 a0_12 a0_13 a0_14 a0_15 a0_16 = (0, 0, 0, 0, 0, 0) := by
      rw [pln_eq _ _ _ _ _ _ _ _ _ _ _ _ _ _ _ _ _ hc, rule, hp, hs, ho, if_neg (show ¬ (!a0_1) = true by rw [h1]; decide), if_neg (Bool.eq_false_iff.mp t1), if_neg (Bool.eq_false_iff.mp t2), if_pos t3]
    have hu2 : out a0_0 a0_1 a0_2 a0_3 a0_4 a0_5 a0_6 a0_7 a0_8 a0_9 a0_10 a0_11 a0_12 a0_13 a0_14 a0_15 a0_16 = (a0_0, a0_1, a0_2, a0_3, a0_4, a0_5, a0_6, a0_7, a0_8, a0_9, a0_10, a0_11, a0_12, a0_13, a0_14, a0_15, a0_16, true, 0) := by
      rw [out, hp, hs, ho, if_neg (show ¬ (!a0_1) = true by rw [h1]; decide), if_neg (Bool.eq_false_iff.mp t1), if_neg (Bool.eq_false_iff.mp t2), if_pos t3]
    exact Or.inl ⟨by rw [hu]; decide, by rw [aft, if_pos hc, hu2]⟩
  rcases Bool.eq_false_or_eq_true ((a0_6 && !((e == 2) || (((e == 1) || (e == 3)) && a0_10)))) with t4 | t4
  · have hi : ruleB e (a0_2 == 1) (decide (0 < a0_16)) a0_0 a0_3 a0_4 a0_5 a0_6 a0_8 a0_9 a0_10 a0_11 a0_12 a0_13 a0_14 a0_15 = 4 := by rw [ruleB, bif_neg t1, bif_neg t2, bif_neg t3, bif_pos t4]
    have hu : pln a0_0 a0_1 a0_2 a0_3 a0_4 a0_5 a0_6 a0_7 a0_8 a0_9 a0_10 a0_11 a0_12 a0_13 a0_14 a0_15 a0_16 = (2, 0, 4, 0, 0, 0) := by
      rw [pln_eq _ _ _ _ _ _ _ _ _ _ _ _ _ _ _ _ _ hc, rule, hp, hs, ho, if_neg (show ¬ (!a0_1) = true by rw [h1]; decide), if_neg (Bool.eq_false_iff.mp t1), if_neg (Bool.eq_false_iff.mp t2), if_neg (Bool.eq_false_iff.mp t3), if_pos t4]
    have hu2 : out a0_0 a0_1 a0_2 a0_3 a0_4 a0_5 a0_6 a0_7 a0_8 a0_9 a0_10 a0_11 a0_12 a0_13 a0_14 a0_15 a0_16 = (a0_0, a0_1, a0_2, a0_3, a0_4, a0_5, false, a0_7, a0_8, a0_9, a0_10, a0_11, a0_12, a0_13, a0_14, a0_15, a0_16, false, 0) := by
      rw [out, hp, hs, ho, if_neg (show ¬ (!a0_1) = true by rw [h1]; decide), if_neg (Bool.eq_false_iff.mp t1), if_neg (Bool.eq_false_iff.mp t2), if_neg (Bool.eq_false_iff.mp t3), if_pos t4]
    have hk := st_all e he (a0_2 == 1) (decide (0 < a0_16)) a0_0 a0_3 a0_4 a0_5 a0_6 a0_8 a0_9 a0_10 a0_11 a0_12 a0_13 a0_14 a0_15 hb
    unfold stepB at hk
    rw [hi] at hk
    try dsimp only at hk
    have pq := prB_out (Bool.and_eq_true_iff.mp hk).2
    replace hk := (Bool.and_eq_true_iff.mp hk).1
    exact Or.inr ⟨e, a0_0, a0_1, a0_2, a0_3, a0_4, a0_5, false, a0_7, a0_8, a0_9, a0_10, a0_11, a0_12, a0_13, a0_14, a0_15, a0_16, by rw [aft, if_pos hc, hu2], fin_ok (e) a0_0 a0_1 a0_2 a0_3 a0_4 a0_5 false a0_7 a0_8 a0_9 a0_10 a0_11 a0_12 a0_13 a0_14 a0_15 a0_16 _ (by exact h7e) (by omega) h1 (by first | exact hm0 | decide) (by first | exact hm2 | decide) hpr (hk), by rw [hu]; exact ⟨(by decide : (2 : Int) ≠ 0), (by decide : (2 : Int) ≠ 1)⟩, (fun h3 => ⟨by rw [hu]; exact (by decide : (2 : Int) ≠ 7), (pq.1 h3).2⟩), (fun h3 => ⟨by rw [hu]; exact (by decide : (2 : Int) ≠ 9), (pq.2 h3).2⟩), rfl⟩
  rcases Bool.eq_false_or_eq_true (a0_9) with t5 | t5
  · have hi : ruleB e (a0_2 == 1) (decide (0 < a0_16)) a0_0 a0_3 a0_4 a0_5 a0_6 a0_8 a0_9 a0_10 a0_11 a0_12 a0_13 a0_14 a0_15 = 5 := by rw [ruleB, bif_neg t1, bif_neg t2, bif_neg t3, bif_neg t4, bif_pos t5]
    have hu : pln a0_0 a0_1 a0_2 a0_3 a0_4 a0_5 a0_6 a0_7 a0_8 a0_9 a0_10 a0_11 a0_12 a0_13 a0_14 a0_15 a0_16 = (2, 0, 3, 0, 0, 0) := by
      rw [pln_eq _ _ _ _ _ _ _ _ _ _ _ _ _ _ _ _ _ hc, rule, hp, hs, ho, if_neg (show ¬ (!a0_1) = true by rw [h1]; decide), if_neg (Bool.eq_false_iff.mp t1), if_neg (Bool.eq_false_iff.mp t2), if_neg (Bool.eq_false_iff.mp t3), if_neg (Bool.eq_false_iff.mp t4), if_pos t5]
    have hu2 : out a0_0 a0_1 a0_2 a0_3 a0_4 a0_5 a0_6 a0_7 a0_8 a0_9 a0_10 a0_11 a0_12 a0_13 a0_14 a0_15 a0_16 = (if a0_7 = 3 then (a0_0, a0_1, a0_2, a0_3, a0_4, a0_5, a0_6, 1, a0_8, false, a0_10, a0_11, a0_12, a0_13, a0_14, a0_15, a0_16, false, 0) else (a0_0, a0_1, a0_2, a0_3, a0_4, a0_5, a0_6, a0_7, a0_8, false, a0_10, a0_11, a0_12, a0_13, a0_14, a0_15, a0_16, false, 0)) := by
      rw [out, hp, hs, ho, if_neg (show ¬ (!a0_1) = true by rw [h1]; decide), if_neg (Bool.eq_false_iff.mp t1), if_neg (Bool.eq_false_iff.mp t2), if_neg (Bool.eq_false_iff.mp t3), if_neg (Bool.eq_false_iff.mp t4), if_pos t5]
    have hk := st_all e he (a0_2 == 1) (decide (0 < a0_16)) a0_0 a0_3 a0_4 a0_5 a0_6 a0_8 a0_9 a0_10 a0_11 a0_12 a0_13 a0_14 a0_15 hb
    unfold stepB at hk
    rw [hi] at hk
    try dsimp only at hk
    by_cases h3 : e = 3
    · have h3b : (e == 3) = true := by rw [h3]; rfl
      rw [h3b] at hk
      simp only [cond_true] at hk
      have pq := prB_out (Bool.and_eq_true_iff.mp hk).2
      replace hk := (Bool.and_eq_true_iff.mp hk).1
      have h7 : a0_7 = 3 := by rw [h7e, h3]; rfl
      exact Or.inr ⟨1, a0_0, a0_1, a0_2, a0_3, a0_4, a0_5, a0_6, 1, a0_8, false, a0_10, a0_11, a0_12, a0_13, a0_14, a0_15, a0_16, by rw [aft, if_pos hc, hu2]; rw [if_pos h7], fin_ok (1) a0_0 a0_1 a0_2 a0_3 a0_4 a0_5 a0_6 1 a0_8 false a0_10 a0_11 a0_12 a0_13 a0_14 a0_15 a0_16 _ (by rfl) (by omega) h1 (by first | exact hm0 | decide) (by first | exact hm2 | decide) hpr (hk), by rw [hu]; exact ⟨(by decide : (2 : Int) ≠ 0), (by decide : (2 : Int) ≠ 1)⟩, (fun h3 => ⟨by rw [hu]; exact (by decide : (2 : Int) ≠ 7), (pq.1 h3).2⟩), (fun h3 => ⟨by rw [hu]; exact (by decide : (2 : Int) ≠ 9), (pq.2 h3).2⟩), rfl⟩
    · have h3b : (e == 3) = false := beq_false_of_ne h3
      rw [h3b] at hk
      simp only [cond_false] at hk
      have pq := prB_out (Bool.and_eq_true_iff.mp hk).2
      replace hk := (Bool.and_eq_true_iff.mp hk).1
      have h7 : ¬ a0_7 = 3 := by rw [h7e]; omega
      exact Or.inr ⟨e, a0_0, a0_1, a0_2, a0_3, a0_4, a0_5, a0_6, a0_7, a0_8, false, a0_10, a0_11, a0_12, a0_13, a0_14, a0_15, a0_16, by rw [aft, if_pos hc, hu2]; rw [if_neg h7], fin_ok (e) a0_0 a0_1 a0_2 a0_3 a0_4 a0_5 a0_6 a0_7 a0_8 false a0_10 a0_11 a0_12 a0_13 a0_14 a0_15 a0_16 _ (by exact h7e) (by omega) h1 (by first | exact hm0 | decide) (by first | exact hm2 | decide) hpr (hk), by rw [hu]; exact ⟨(by decide : (2 : Int) ≠ 0), (by decide : (2 : Int) ≠ 1)⟩, (fun h3 => ⟨by rw [hu]; exact (by decide : (2 : Int) ≠ 7), (pq.1 h3).2⟩), (fun h3 => ⟨by rw [hu]; exact (by decide : (2 : Int) ≠ 9), (pq.2 h3).2⟩), rfl⟩
  rcases Bool.eq_false_or_eq_true (((e == 1) && a0_10 && a0_11)) with t6 | t6
  · have hi : ruleB e (a0_2 == 1) (decide (0 < a0_16)) a0_0 a0_3 a0_4 a0_5 a0_6 a0_8 a0_9 a0_10 a0_11 a0_12 a0_13 a0_14 a0_15 = 6 := by rw [ruleB, bif_neg t1, bif_neg t2, bif_neg t3, bif_neg t4, bif_neg t5, bif_pos t6]
    have hu : pln a0_0 a0_1 a0_2 a0_3 a0_4 a0_5 a0_6 a0_7 a0_8 a0_9 a0_10 a0_11 a0_12 a0_13 a0_14 a0_15 a0_16 = (8, 0, 0, 0, 0, 0) := by
      rw [pln_eq _ _ _ _ _ _ _ _ _ _ _ _ _ _ _ _ _ hc, rule, hp, hs, ho, if_neg (show ¬ (!a0_1) = true by rw [h1]; decide), if_neg (Bool.eq_false_iff.mp t1), if_neg (Bool.eq_false_iff.mp t2), if_neg (Bool.eq_false_iff.mp t3), if_neg (Bool.eq_false_iff.mp t4), if_neg (Bool.eq_false_iff.mp t5), if_pos t6]
    have hu2 : out a0_0 a0_1 a0_2 a0_3 a0_4 a0_5 a0_6 a0_7 a0_8 a0_9 a0_10 a0_11 a0_12 a0_13 a0_14 a0_15 a0_16 = (a0_0, a0_1, a0_2, a0_3, a0_4, a0_5, a0_6, a0_7, true, a0_9, a0_10, a0_11, a0_12, a0_13, a0_14, a0_15, a0_16, false, 0) := by
      rw [out, hp, hs, ho, if_neg (show ¬ (!a0_1) = true by rw [h1]; decide), if_neg (Bool.eq_false_iff.mp t1), if_neg (Bool.eq_false_iff.mp t2), if_neg (Bool.eq_false_iff.mp t3), if_neg (Bool.eq_false_iff.mp t4), if_neg (Bool.eq_false_iff.mp t5), if_pos t6]
    have hk := st_all e he (a0_2 == 1) (decide (0 < a0_16)) a0_0 a0_3 a0_4 a0_5 a0_6 a0_8 a0_9 a0_10 a0_11 a0_12 a0_13 a0_14 a0_15 hb
    unfold stepB at hk
    rw [hi] at hk
    try dsimp only at hk
    have pq := prB_out (Bool.and_eq_true_iff.mp hk).2
    replace hk := (Bool.and_eq_true_iff.mp hk).1
    exact Or.inr ⟨e, a0_0, a0_1, a0_2, a0_3, a0_4, a0_5, a0_6, a0_7, true, a0_9, a0_10, a0_11, a0_12, a0_13, a0_14, a0_15, a0_16, by rw [aft, if_pos hc, hu2], fin_ok (e) a0_0 a0_1 a0_2 a0_3 a0_4 a0_5 a0_6 a0_7 true a0_9 a0_10 a0_11 a0_12 a0_13 a0_14 a0_15 a0_16 _ (by exact h7e) (by omega) h1 (by first | exact hm0 | decide) (by first | exact hm2 | decide) hpr (hk), by rw [hu]; exact ⟨(by decide : (8 : Int) ≠ 0), (by decide : (8 : Int) ≠ 1)⟩, (fun h3 => ⟨by rw [hu]; exact (by decide : (8 : Int) ≠ 7), (pq.1 h3).2⟩), (fun h3 => ⟨by rw [hu]; exact (by decide : (8 : Int) ≠ 9), (pq.2 h3).2⟩), rfl⟩
  rcases Bool.eq_false_or_eq_true (((e == 1) && (a0_10 || !a0_3))) with t7 | t7
  · have hi : ruleB e (a0_2 == 1) (decide (0 < a0_16)) a0_0 a0_3 a0_4 a0_5 a0_6 a0_8 a0_9 a0_10 a0_11 a0_12 a0_13 a0_14 a0_15 = 7 := by rw [ruleB, bif_neg t1, bif_neg t2, bif_neg t3, bif_neg t4, bif_neg t5, bif_neg t6, bif_pos t7]
    have hu : pln a0_0 a0_1 a0_2 a0_3 a0_4 a0_5 a0_6 a0_7 a0_8 a0_9 a0_10 a0_11 a0_12 a0_13 a0_14 a0_15 a0_16 = (9, 0, 0, 0, 1, 0) := by
      rw [pln_eq _ _ _ _ _ _ _ _ _ _ _ _ _ _ _ _ _ hc, rule, hp, hs, ho, if_neg (show ¬ (!a0_1) = true by rw [h1]; decide), if_neg (Bool.eq_false_iff.mp t1), if_neg (Bool.eq_false_iff.mp t2), if_neg (Bool.eq_false_iff.mp t3), if_neg (Bool.eq_false_iff.mp t4), if_neg (Bool.eq_false_iff.mp t5), if_neg (Bool.eq_false_iff.mp t6), if_pos t7]
    have hu2 : out a0_0 a0_1 a0_2 a0_3 a0_4 a0_5 a0_6 a0_7 a0_8 a0_9 a0_10 a0_11 a0_12 a0_13 a0_14 a0_15 a0_16 = (a0_0, a0_1, a0_2, a0_3, a0_4, a0_5, a0_6, a0_7, true, a0_9, true, true, a0_12, a0_13, a0_14, a0_15, a0_16, false, 0) := by
      rw [out, hp, hs, ho, if_neg (show ¬ (!a0_1) = true by rw [h1]; decide), if_neg (Bool.eq_false_iff.mp t1), if_neg (Bool.eq_false_iff.mp t2), if_neg (Bool.eq_false_iff.mp t3), if_neg (Bool.eq_false_iff.mp t4), if_neg (Bool.eq_false_iff.mp t5), if_neg (Bool.eq_false_iff.mp t6), if_pos t7]
    have hk := st_all e he (a0_2 == 1) (decide (0 < a0_16)) a0_0 a0_3 a0_4 a0_5 a0_6 a0_8 a0_9 a0_10 a0_11 a0_12 a0_13 a0_14 a0_15 hb
    unfold stepB at hk
    rw [hi] at hk
    try dsimp only at hk
    have pq := prB_out (Bool.and_eq_true_iff.mp hk).2
    replace hk := (Bool.and_eq_true_iff.mp hk).1
    exact Or.inr ⟨e, a0_0, a0_1, a0_2, a0_3, a0_4, a0_5, a0_6, a0_7, true, a0_9, true, true, a0_12, a0_13, a0_14, a0_15, a0_16, by rw [aft, if_pos hc, hu2], fin_ok (e) a0_0 a0_1 a0_2 a0_3 a0_4 a0_5 a0_6 a0_7 true a0_9 true true a0_12 a0_13 a0_14 a0_15 a0_16 _ (by exact h7e) (by omega) h1 (by first | exact hm0 | decide) (by first | exact hm2 | decide) hpr (hk), by rw [hu]; exact ⟨(by decide : (9 : Int) ≠ 0), (by decide : (9 : Int) ≠ 1)⟩, (fun h3 => ⟨by rw [hu]; exact (by decide : (9 : Int) ≠ 7), (pq.1 h3).2⟩), (fun h3 => ⟨absurd rfl (pq.2 h3).1, (pq.2 h3).2⟩), rfl⟩
  rcases Bool.eq_false_or_eq_true (((e == 1) && !a0_14 && a0_15)) with t8 | t8
  · have hi : ruleB e (a0_2 == 1) (decide (0 < a0_16)) a0_0 a0_3 a0_4 a0_5 a0_6 a0_8 a0_9 a0_10 a0_11 a0_12 a0_13 a0_14 a0_15 = 8 := by rw [ruleB, bif_neg t1, bif_neg t2, bif_neg t3, bif_neg t4, bif_neg t5, bif_neg t6, bif_neg t7, bif_pos t8]
    have hu : pln a0_0 a0_1 a0_2 a0_3 a0_4 a0_5 a0_6 a0_7 a0_8 a0_9 a0_10 a0_11 a0_12 a0_13 a0_14 a0_15 a0_16 = (2, 0, 5, 0, 0, 0) := by
      rw [pln_eq _ _ _ _ _ _ _ _ _ _ _ _ _ _ _ _ _ hc, rule, hp, hs, ho, if_neg (show ¬ (!a0_1) = true by rw [h1]; decide), if_neg (Bool.eq_false_iff.mp t1), if_neg (Bool.eq_false_iff.mp t2), if_neg (Bool.eq_false_iff.mp t3), if_neg (Bool.eq_false_iff.mp t4), if_neg (Bool.eq_false_iff.mp t5), if_neg (Bool.eq_false_iff.mp t6), if_neg (Bool.eq_false_iff.mp t7), if_pos t8]
    have hu2 : out a0_0 a0_1 a0_2 a0_3 a0_4 a0_5 a0_6 a0_7 a0_8 a0_9 a0_10 a0_11 a0_12 a0_13 a0_14 a0_15 a0_16 = (a0_0, a0_1, a0_2, a0_3, a0_4, a0_5, a0_6, a0_7, a0_8, a0_9, a0_10, a0_11, a0_12, a0_13, a0_14, false, a0_16, false, 0) := by
      rw [out, hp, hs, ho, if_neg (show ¬ (!a0_1) = true by rw [h1]; decide), if_neg (Bool.eq_false_iff.mp t1), if_neg (Bool.eq_false_iff.mp t2), if_neg (Bool.eq_false_iff.mp t3), if_neg (Bool.eq_false_iff.mp t4), if_neg (Bool.eq_false_iff.mp t5), if_neg (Bool.eq_false_iff.mp t6), if_neg (Bool.eq_false_iff.mp t7), if_pos t8]
    have hk := st_all e he (a0_2 == 1) (decide (0 < a0_16)) a0_0 a0_3 a0_4 a0_5 a0_6 a0_8 a0_9 a0_10 a0_11 a0_12 a0_13 a0_14 a0_15 hb
    unfold stepB at hk
    rw [hi] at hk
    try dsimp only at hk
    have pq := prB_out (Bool.and_eq_true_iff.mp hk).2
    replace hk := (Bool.and_eq_true_iff.mp hk).1
    exact Or.inr ⟨e, a0_0, a0_1, a0_2, a0_3, a0_4, a0_5, a0_6, a0_7, a0_8, a0_9, a0_10, a0_11, a0_12, a0_13, a0_14, false, a0_16, by rw [aft, if_pos hc, hu2], fin_ok (e) a0_0 a0_1 a0_2 a0_3 a0_4 a0_5 a0_6 a0_7 a0_8 a0_9 a0_10 a0_11 a0_12 a0_13 a0_14 false a0_16 _ (by exact h7e) (by omega) h1 (by first | exact hm0 | decide) (by first | exact hm2 | decide) hpr (hk), by rw [hu]; exact ⟨(by decide : (2 : Int) ≠ 0), (by decide : (2 : Int) ≠ 1)⟩, (fun h3 => ⟨by rw [hu]; exact (by decide : (2 : Int) ≠ 7), (pq.1 h3).2⟩), (fun h3 => ⟨by rw [hu]; exact (by decide : (2 : Int) ≠ 9), (pq.2 h3).2⟩), rfl⟩
  rcases Bool.eq_false_or_eq_true ((e == 1)) with t9 | t9
  · have hi : ruleB e (a0_2 == 1) (decide (0 < a0_16)) a0_0 a0_3 a0_4 a0_5 a0_6 a0_8 a0_9 a0_10 a0_11 a0_12 a0_13 a0_14 a0_15 = 9 := by rw [ruleB, bif_neg t1, bif_neg t2, bif_neg t3, bif_neg t4, bif_neg t5, bif_neg t6, bif_neg t7, bif_neg t8, bif_pos t9]
    have hu : pln a0_0 a0_1 a0_2 a0_3 a0_4 a0_5 a0_6 a0_7 a0_8 a0_9 a0_10 a0_11 a0_12 a0_13 a0_14 a0_15 a0_16 = (7, 0, 0, 0, 0, 0) := by
      rw [pln_eq _ _ _ _ _ _ _ _ _ _ _ _ _ _ _ _ _ hc, rule, hp, hs, ho, if_neg (show ¬ (!a0_1) = true by rw [h1]; decide), if_neg (Bool.eq_false_iff.mp t1), if_neg (Bool.eq_false_iff.mp t2), if_neg (Bool.eq_false_iff.mp t3), if_neg (Bool.eq_false_iff.mp t4), if_neg (Bool.eq_false_iff.mp t5), if_neg (Bool.eq_false_iff.mp t6), if_neg (Bool.eq_false_iff.mp t7), if_neg (Bool.eq_false_iff.mp t8), if_pos t9]
    have hu2 : out a0_0 a0_1 a0_2 a0_3 a0_4 a0_5 a0_6 a0_7 a0_8 a0_9 a0_10 a0_11 a0_12 a0_13 a0_14 a0_15 a0_16 = (a0_0, a0_1, a0_2, a0_3, a0_4, a0_5, a0_6, a0_7, true, a0_9, a0_10, a0_11, a0_12, a0_13, true, a0_15, a0_16, false, 0) := by
      rw [out, hp, hs, ho, if_neg (show ¬ (!a0_1) = true by rw [h1]; decide), if_neg (Bool.eq_false_iff.mp t1), if_neg (Bool.eq_false_iff.mp t2), if_neg (Bool.eq_false_iff.mp t3), if_neg (Bool.eq_false_iff.mp t4), if_neg (Bool.eq_false_iff.mp t5), if_neg (Bool.eq_false_iff.mp t6), if_neg (Bool.eq_false_iff.mp t7), if_neg (Bool.eq_false_iff.mp t8), if_pos t9]
    have hk := st_all e he (a0_2 == 1) (decide (0 < a0_16)) a0_0 a0_3 a0_4 a0_5 a0_6 a0_8 a0_9 a0_10 a0_11 a0_12 a0_13 a0_14 a0_15 hb
    unfold stepB at hk
    rw [hi] at hk
    try dsimp only at hk
    have pq := prB_out (Bool.and_eq_true_iff.mp hk).2
    replace hk := (Bool.and_eq_true_iff.mp hk).1
    exact Or.inr ⟨e, a0_0, a0_1, a0_2, a0_3, a0_4, a0_5, a0_6, a0_7, true, a0_9, a0_10, a0_11, a0_12, a0_13, true, a0_15, a0_16, by rw [aft, if_pos hc, hu2], fin_ok (e) a0_0 a0_1 a0_2 a0_3 a0_4 a0_5 a0_6 a0_7 true a0_9 a0_10 a0_11 a0_12 a0_13 true a0_15 a0_16 _ (by exact h7e) (by omega) h1 (by first | exact hm0 | decide) (by first | exact hm2 | decide) hpr (hk), by rw [hu]; exact ⟨(by decide : (7 : Int) ≠ 0), (by decide : (7 : Int) ≠ 1)⟩, (fun h3 => ⟨absurd rfl (pq.1 h3).1, (pq.1 h3).2⟩), (fun h3 => ⟨by rw [hu]; exact (by decide : (7 : Int) ≠ 9), (pq.2 h3).2⟩), rfl⟩
  rcases Bool.eq_false_or_eq_true (((e == 2) && a0_12)) with t10 | t10
  · have hi : ruleB e (a0_2 == 1) (decide (0 < a0_16)) a0_0 a0_3 a0_4 a0_5 a0_6 a0_8 a0_9 a0_10 a0_11 a0_12 a0_13 a0_14 a0_15 = 10 := by rw [ruleB, bif_neg t1, bif_neg t2, bif_neg t3, bif_neg t4, bif_neg t5, bif_neg t6, bif_neg t7, bif_neg t8, bif_neg t9, bif_pos t10]
    have hu : pln a0_0 a0_1 a0_2 a0_3 a0_4 a0_5 a0_6 a0_7 a0_8 a0_9 a0_10 a0_11 a0_12 a0_13 a0_14 a0_15 a0_16 = (10, 0, 0, 0, 0, 0) := by
      rw [pln_eq _ _ _ _ _ _ _ _ _ _ _ _ _ _ _ _ _ hc, rule, hp, hs, ho, if_neg (show ¬ (!a0_1) = true by rw [h1]; decide), if_neg (Bool.eq_false_iff.mp t1), if_neg (Bool.eq_false_iff.mp t2), if_neg (Bool.eq_false_iff.mp t3), if_neg (Bool.eq_false_iff.mp t4), if_neg (Bool.eq_false_iff.mp t5), if_neg (Bool.eq_false_iff.mp t6), if_neg (Bool.eq_false_iff.mp t7), if_neg (Bool.eq_false_iff.mp t8), if_neg (Bool.eq_false_iff.mp t9), if_pos t10]
    have hu2 : out a0_0 a0_1 a0_2 a0_3 a0_4 a0_5 a0_6 a0_7 a0_8 a0_9 a0_10 a0_11 a0_12 a0_13 a0_14 a0_15 a0_16 = (a0_0, a0_1, a0_2, a0_3, a0_4, a0_5, a0_6, 1, (a0_11 && (a0_2 == 3)), a0_9, a0_10, a0_11, false, a0_13, a0_14, a0_15, a0_16, false, 0) := by
      rw [out, hp, hs, ho, if_neg (show ¬ (!a0_1) = true by rw [h1]; decide), if_neg (Bool.eq_false_iff.mp t1), if_neg (Bool.eq_false_iff.mp t2), if_neg (Bool.eq_false_iff.mp t3), if_neg (Bool.eq_false_iff.mp t4), if_neg (Bool.eq_false_iff.mp t5), if_neg (Bool.eq_false_iff.mp t6), if_neg (Bool.eq_false_iff.mp t7), if_neg (Bool.eq_false_iff.mp t8), if_neg (Bool.eq_false_iff.mp t9), if_pos t10]
    have hk := st_all e he (a0_2 == 1) (decide (0 < a0_16)) a0_0 a0_3 a0_4 a0_5 a0_6 a0_8 a0_9 a0_10 a0_11 a0_12 a0_13 a0_14 a0_15 hb
    unfold stepB at hk
    rw [hi] at hk
    try dsimp only at hk
    rw [hw13] at hu2
    
    have pq := prB_out (Bool.and_eq_true_iff.mp hk).2
    replace hk := (Bool.and_eq_true_iff.mp hk).1
    exact Or.inr ⟨1, a0_0, a0_1, a0_2, a0_3, a0_4, a0_5, a0_6, 1, (a0_11 && !(a0_2 == 1)), a0_9, a0_10, a0_11, false, a0_13, a0_14, a0_15, a0_16, by rw [aft, if_pos hc, hu2], fin_ok (1) a0_0 a0_1 a0_2 a0_3 a0_4 a0_5 a0_6 1 (a0_11 && !(a0_2 == 1)) a0_9 a0_10 a0_11 false a0_13 a0_14 a0_15 a0_16 _ (by rfl) (by omega) h1 (by first | exact hm0 | decide) (by first | exact hm2 | decide) hpr (hk), by rw [hu]; exact ⟨(by decide : (10 : Int) ≠ 0), (by decide : (10 : Int) ≠ 1)⟩, (fun h3 => ⟨by rw [hu]; exact (by decide : (10 : Int) ≠ 7), (pq.1 h3).2⟩), (fun h3 => ⟨by rw [hu]; exact (by decide : (10 : Int) ≠ 9), (pq.2 h3).2⟩), rfl⟩
  rcases Bool.eq_false_or_eq_true ((e == 2)) with t11 | t11
  · have hi : ruleB e (a0_2 == 1) (decide (0 < a0_16)) a0_0 a0_3 a0_4 a0_5 a0_6 a0_8 a0_9 a0_10 a0_11 a0_12 a0_13 a0_14 a0_15 = 11 := by rw [ruleB, bif_neg t1, bif_neg t2, bif_neg t3, bif_neg t4, bif_neg t5, bif_neg t6, bif_neg t7, bif_neg t8, bif_neg t9, bif_neg t10, bif_pos t11]
    have hu : pln a0_0 a0_1 a0_2 a0_3 a0_4 a0_5 a0_6 a0_7 a0_8 a0_9 a0_10 a0_11 a0_12 a0_13 a0_14 a0_15 a0_16 = (11, 0, 0, 0, 1, 0) := by
      rw [pln_eq _ _ _ _ _ _ _ _ _ _ _ _ _ _ _ _ _ hc, rule, hp, hs, ho, if_neg (show ¬ (!a0_1) = true by rw [h1]; decide), if_neg (Bool.eq_false_iff.mp t1), if_neg (Bool.eq_false_iff.mp t2), if_neg (Bool.eq_false_iff.mp t3), if_neg (Bool.eq_false_iff.mp t4), if_neg (Bool.eq_false_iff.mp t5), if_neg (Bool.eq_false_iff.mp t6), if_neg (Bool.eq_false_iff.mp t7), if_neg (Bool.eq_false_iff.mp t8), if_neg (Bool.eq_false_iff.mp t9), if_neg (Bool.eq_false_iff.mp t10), if_pos t11]
    have hu2 : out a0_0 a0_1 a0_2 a0_3 a0_4 a0_5 a0_6 a0_7 a0_8 a0_9 a0_10 a0_11 a0_12 a0_13 a0_14 a0_15 a0_16 = (a0_0, a0_1, a0_2, a0_3, a0_4, a0_5, a0_6, a0_7, a0_8, a0_9, a0_10, a0_11, true, a0_13, a0_14, a0_15, a0_16, false, 0) := by
      rw [out, hp, hs, ho, if_neg (show ¬ (!a0_1) = true by rw [h1]; decide), if_neg (Bool.eq_false_iff.mp t1), if_neg (Bool.eq_false_iff.mp t2), if_neg (Bool.eq_false_iff.mp t3), if_neg (Bool.eq_false_iff.mp t4), if_neg (Bool.eq_false_iff.mp t5), if_neg (Bool.eq_false_iff.mp t6), if_neg (Bool.eq_false_iff.mp t7), if_neg (Bool.eq_false_iff.mp t8), if_neg (Bool.eq_false_iff.mp t9), if_neg (Bool.eq_false_iff.mp t10), if_pos t11]
    have hk := st_all e he (a0_2 == 1) (decide (0 < a0_16)) a0_0 a0_3 a0_4 a0_5 a0_6 a0_8 a0_9 a0_10 a0_11 a0_12 a0_13 a0_14 a0_15 hb
    unfold stepB at hk
    rw [hi] at hk
    try dsimp only at hk
    have pq := prB_out (Bool.and_eq_true_iff.mp hk).2
    replace hk := (Bool.and_eq_true_iff.mp hk).1
    exact Or.inr ⟨e, a0_0, a0_1, a0_2, a0_3, a0_4, a0_5, a0_6, a0_7, a0_8, a0_9, a0_10, a0_11, true, a0_13, a0_14, a0_15, a0_16, by rw [aft, if_pos hc, hu2], fin_ok (e) a0_0 a0_1 a0_2 a0_3 a0_4 a0_5 a0_6 a0_7 a0_8 a0_9 a0_10 a0_11 true a0_13 a0_14 a0_15 a0_16 _ (by exact h7e) (by omega) h1 (by first | exact hm0 | decide) (by first | exact hm2 | decide) hpr (hk), by rw [hu]; exact ⟨(by decide : (11 : Int) ≠ 0), (by decide : (11 : Int) ≠ 1)⟩, (fun h3 => ⟨by rw [hu]; exact (by decide : (11 : Int) ≠ 7), (pq.1 h3).2⟩), (fun h3 => ⟨by rw [hu]; exact (by decide : (11 : Int) ≠ 9), (pq.2 h3).2⟩), rfl⟩
  rcases Bool.eq_false_or_eq_true (!a0_4) with t12 | t12
  · have hi : ruleB e (a0_2 == 1) (decide (0 < a0_16)) a0_0 a0_3 a0_4 a0_5 a0_6 a0_8 a0_9 a0_10 a0_11 a0_12 a0_13 a0_14 a0_15 = 12 := by rw [ruleB, bif_neg t1, bif_neg t2, bif_neg t3, bif_neg t4, bif_neg t5, bif_neg t6, bif_neg t7, bif_neg t8, bif_neg t9, bif_neg t10, bif_neg t11, bif_pos t12]
    have hu : pln a0_0 a0_1 a0_2 a0_3 a0_4 a0_5 a0_6 a0_7 a0_8 a0_9 a0_10 a0_11 a0_12 a0_13 a0_14 a0_15 a0_16 = (3, 0, 0, a0_16, 1, 0) := by
      rw [pln_eq _ _ _ _ _ _ _ _ _ _ _ _ _ _ _ _ _ hc, rule, hp, hs, ho, if_neg (show ¬ (!a0_1) = true by rw [h1]; decide), if_neg (Bool.eq_false_iff.mp t1), if_neg (Bool.eq_false_iff.mp t2), if_neg (Bool.eq_false_iff.mp t3), if_neg (Bool.eq_false_iff.mp t4), if_neg (Bool.eq_false_iff.mp t5), if_neg (Bool.eq_false_iff.mp t6), if_neg (Bool.eq_false_iff.mp t7), if_neg (Bool.eq_false_iff.mp t8), if_neg (Bool.eq_false_iff.mp t9), if_neg (Bool.eq_false_iff.mp t10), if_neg (Bool.eq_false_iff.mp t11), if_pos t12]
    have hu2 : out a0_0 a0_1 a0_2 a0_3 a0_4 a0_5 a0_6 a0_7 a0_8 a0_9 a0_10 a0_11 a0_12 a0_13 a0_14 a0_15 a0_16 = (a0_0, a0_1, a0_2, a0_3, a0_4, a0_5, a0_6, 1, (a0_2 == 3), a0_9, true, true, a0_12, a0_13, a0_14, a0_15, 0, false, 0) := by
      rw [out, hp, hs, ho, if_neg (show ¬ (!a0_1) = true by rw [h1]; decide), if_neg (Bool.eq_false_iff.mp t1), if_neg (Bool.eq_false_iff.mp t2), if_neg (Bool.eq_false_iff.mp t3), if_neg (Bool.eq_false_iff.mp t4), if_neg (Bool.eq_false_iff.mp t5), if_neg (Bool.eq_false_iff.mp t6), if_neg (Bool.eq_false_iff.mp t7), if_neg (Bool.eq_false_iff.mp t8), if_neg (Bool.eq_false_iff.mp t9), if_neg (Bool.eq_false_iff.mp t10), if_neg (Bool.eq_false_iff.mp t11), if_pos t12]
    have hk := st_all e he (a0_2 == 1) (decide (0 < a0_16)) a0_0 a0_3 a0_4 a0_5 a0_6 a0_8 a0_9 a0_10 a0_11 a0_12 a0_13 a0_14 a0_15 hb
    unfold stepB at hk
    rw [hi] at hk
    try dsimp only at hk
    rw [hw13] at hu2
    
    have pq := prB_out (Bool.and_eq_true_iff.mp hk).2
    replace hk := (Bool.and_eq_true_iff.mp hk).1
    exact Or.inr ⟨1, a0_0, a0_1, a0_2, a0_3, a0_4, a0_5, a0_6, 1, (!(a0_2 == 1)), a0_9, true, true, a0_12, a0_13, a0_14, a0_15, 0, by rw [aft, if_pos hc, hu2], fin_ok (1) a0_0 a0_1 a0_2 a0_3 a0_4 a0_5 a0_6 1 (!(a0_2 == 1)) a0_9 true true a0_12 a0_13 a0_14 a0_15 0 _ (by rfl) (by omega) h1 (by first | exact hm0 | decide) (by first | exact hm2 | decide) hpr (hk), by rw [hu]; exact ⟨(by decide : (3 : Int) ≠ 0), (by decide : (3 : Int) ≠ 1)⟩, (fun h3 => ⟨by rw [hu]; exact (by decide : (3 : Int) ≠ 7), (pq.1 h3).2⟩), (fun h3 => ⟨by rw [hu]; exact (by decide : (3 : Int) ≠ 9), (pq.2 h3).2⟩), rfl⟩
  rcases Bool.eq_false_or_eq_true (a0_12) with t13 | t13
  · have hi : ruleB e (a0_2 == 1) (decide (0 < a0_16)) a0_0 a0_3 a0_4 a0_5 a0_6 a0_8 a0_9 a0_10 a0_11 a0_12 a0_13 a0_14 a0_15 = 13 := by rw [ruleB, bif_neg t1, bif_neg t2, bif_neg t3, bif_neg t4, bif_neg t5, bif_neg t6, bif_neg t7, bif_neg t8, bif_neg t9, bif_neg t10, bif_neg t11, bif_neg t12, bif_pos t13]
    have hu : pln a0_0 a0_1 a0_2 a0_3 a0_4 a0_5 a0_6 a0_7 a0_8 a0_9 a0_10 a0_11 a0_12 a0_13 a0_14 a0_15 a0_16 = (6, 0, 0, a0_16, 0, 0) := by
      rw [pln_eq _ _ _ _ _ _ _ _ _ _ _ _ _ _ _ _ _ hc, rule, hp, hs, ho, if_neg (show ¬ (!a0_1) = true by rw [h1]; decide), if_neg (Bool.eq_false_iff.mp t1), if_neg (Bool.eq_false_iff.mp t2), if_neg (Bool.eq_false_iff.mp t3), if_neg (Bool.eq_false_iff.mp t4), if_neg (Bool.eq_false_iff.mp t5), if_neg (Bool.eq_false_iff.mp t6), if_neg (Bool.eq_false_iff.mp t7), if_neg (Bool.eq_false_iff.mp t8), if_neg (Bool.eq_false_iff.mp t9), if_neg (Bool.eq_false_iff.mp t10), if_neg (Bool.eq_false_iff.mp t11), if_neg (Bool.eq_false_iff.mp t12), if_pos t13]
    have hu2 : out a0_0 a0_1 a0_2 a0_3 a0_4 a0_5 a0_6 a0_7 a0_8 a0_9 a0_10 a0_11 a0_12 a0_13 a0_14 a0_15 a0_16 = (a0_0, a0_1, a0_2, a0_3, a0_4, a0_5, a0_6, 1, a0_8, a0_9, a0_10, a0_11, false, a0_13, a0_14, a0_15, 0, false, 0) := by
      rw [out, hp, hs, ho, if_neg (show ¬ (!a0_1) = true by rw [h1]; decide), if_neg (Bool.eq_false_iff.mp t1), if_neg (Bool.eq_false_iff.mp t2), if_neg (Bool.eq_false_iff.mp t3), if_neg (Bool.eq_false_iff.mp t4), if_neg (Bool.eq_false_iff.mp t5), if_neg (Bool.eq_false_iff.mp t6), if_neg (Bool.eq_false_iff.mp t7), if_neg (Bool.eq_false_iff.mp t8), if_neg (Bool.eq_false_iff.mp t9), if_neg (Bool.eq_false_iff.mp t10), if_neg (Bool.eq_false_iff.mp t11), if_neg (Bool.eq_false_iff.mp t12), if_pos t13]
    have hk := st_all e he (a0_2 == 1) (decide (0 < a0_16)) a0_0 a0_3 a0_4 a0_5 a0_6 a0_8 a0_9 a0_10 a0_11 a0_12 a0_13 a0_14 a0_15 hb
    unfold stepB at hk
    rw [hi] at hk
    try dsimp only at hk
    have pq := prB_out (Bool.and_eq_true_iff.mp hk).2
    replace hk := (Bool.and_eq_true_iff.mp hk).1
    exact Or.inr ⟨1, a0_0, a0_1, a0_2, a0_3, a0_4, a0_5, a0_6, 1, a0_8, a0_9, a0_10, a0_11, false, a0_13, a0_14, a0_15, 0, by rw [aft, if_pos hc, hu2], fin_ok (1) a0_0 a0_1 a0_2 a0_3 a0_4 a0_5 a0_6 1 a0_8 a0_9 a0_10 a0_11 false a0_13 a0_14 a0_15 0 _ (by rfl) (by omega) h1 (by first | exact hm0 | decide) (by first | exact hm2 | decide) hpr (hk), by rw [hu]; exact ⟨(by decide : (6 : Int) ≠ 0), (by decide : (6 : Int) ≠ 1)⟩, (fun h3 => ⟨by rw [hu]; exact (by decide : (6 : Int) ≠ 7), (pq.1 h3).2⟩), (fun h3 => ⟨by rw [hu]; exact (by decide : (6 : Int) ≠ 9), (pq.2 h3).2⟩), rfl⟩
  rcases Bool.eq_false_or_eq_true (!a0_13) with t14 | t14
  · have hi : ruleB e (a0_2 == 1) (decide (0 < a0_16)) a0_0 a0_3 a0_4 a0_5 a0_6 a0_8 a0_9 a0_10 a0_11 a0_12 a0_13 a0_14 a0_15 = 14 := by rw [ruleB, bif_neg t1, bif_neg t2, bif_neg t3, bif_neg t4, bif_neg t5, bif_neg t6, bif_neg t7, bif_neg t8, bif_neg t9, bif_neg t10, bif_neg t11, bif_neg t12, bif_neg t13, bif_pos t14]
    have hu : pln a0_0 a0_1 a0_2 a0_3 a0_4 a0_5 a0_6 a0_7 a0_8 a0_9 a0_10 a0_11 a0_12 a0_13 a0_14 a0_15 a0_16 = (4, 0, 0, a0_16, 1, 0) := by
      rw [pln_eq _ _ _ _ _ _ _ _ _ _ _ _ _ _ _ _ _ hc, rule, hp, hs, ho, if_neg (show ¬ (!a0_1) = true by rw [h1]; decide), if_neg (Bool.eq_false_iff.mp t1), if_neg (Bool.eq_false_iff.mp t2), if_neg (Bool.eq_false_iff.mp t3), if_neg (Bool.eq_false_iff.mp t4), if_neg (Bool.eq_false_iff.mp t5), if_neg (Bool.eq_false_iff.mp t6), if_neg (Bool.eq_false_iff.mp t7), if_neg (Bool.eq_false_iff.mp t8), if_neg (Bool.eq_false_iff.mp t9), if_neg (Bool.eq_false_iff.mp t10), if_neg (Bool.eq_false_iff.mp t11), if_neg (Bool.eq_false_iff.mp t12), if_neg (Bool.eq_false_iff.mp t13), if_pos t14]
    have hu2 : out a0_0 a0_1 a0_2 a0_3 a0_4 a0_5 a0_6 a0_7 a0_8 a0_9 a0_10 a0_11 a0_12 a0_13 a0_14 a0_15 a0_16 = (a0_0, a0_1, a0_2, a0_3, a0_4, a0_5, a0_6, a0_7, a0_8, a0_9, a0_10, a0_11, true, a0_13, a0_14, a0_15, a0_16, false, 0) := by
      rw [out, hp, hs, ho, if_neg (show ¬ (!a0_1) = true by rw [h1]; decide), if_neg (Bool.eq_false_iff.mp t1), if_neg (Bool.eq_false_iff.mp t2), if_neg (Bool.eq_false_iff.mp t3), if_neg (Bool.eq_false_iff.mp t4), if_neg (Bool.eq_false_iff.mp t5), if_neg (Bool.eq_false_iff.mp t6), if_neg (Bool.eq_false_iff.mp t7), if_neg (Bool.eq_false_iff.mp t8), if_neg (Bool.eq_false_iff.mp t9), if_neg (Bool.eq_false_iff.mp t10), if_neg (Bool.eq_false_iff.mp t11), if_neg (Bool.eq_false_iff.mp t12), if_neg (Bool.eq_false_iff.mp t13), if_pos t14]
    have hk := st_all e he (a0_2 == 1) (decide (0 < a0_16)) a0_0 a0_3 a0_4 a0_5 a0_6 a0_8 a0_9 a0_10 a0_11 a0_12 a0_13 a0_14 a0_15 hb
    unfold stepB at hk
    rw [hi] at hk
    try dsimp only at hk
    have pq := prB_out (Bool.and_eq_true_iff.mp hk).2
    replace hk := (Bool.and_eq_true_iff.mp hk).1
    exact Or.inr ⟨e, a0_0, a0_1, a0_2, a0_3, a0_4, a0_5, a0_6, a0_7, a0_8, a0_9, a0_10, a0_11, true, a0_13, a0_14, a0_15, a0_16, by rw [aft, if_pos hc, hu2], fin_ok (e) a0_0 a0_1 a0_2 a0_3 a0_4 a0_5 a0_6 a0_7 a0_8 a0_9 a0_10 a0_11 true a0_13 a0_14 a0_15 a0_16 _ (by exact h7e) (by omega) h1 (by first | exact hm0 | decide) (by first | exact hm2 | decide) hpr (hk), by rw [hu]; exact ⟨(by decide : (4 : Int) ≠ 0), (by decide : (4 : Int) ≠ 1)⟩, (fun h3 => ⟨by rw [hu]; exact (by decide : (4 : Int) ≠ 7), (pq.1 h3).2⟩), (fun h3 => ⟨by rw [hu]; exact (by decide : (4 : Int) ≠ 9), (pq.2 h3).2⟩), rfl⟩
  · have hi : ruleB e (a0_2 == 1) (decide (0 < a0_16)) a0_0 a0_3 a0_4 a0_5 a0_6 a0_8 a0_9 a0_10 a0_11 a0_12 a0_13 a0_14 a0_15 = 15 := by rw [ruleB, bif_neg t1, bif_neg t2, bif_neg t3, bif_neg t4, bif_neg t5, bif_neg t6, bif_neg t7, bif_neg t8, bif_neg t9, bif_neg t10, bif_neg t11, bif_neg t12, bif_neg t13, bif_neg t14]
    have hu : pln a0_0 a0_1 a0_2 a0_3 a0_4 a0_5 a0_6 a0_7 a0_8 a0_9 a0_10 a0_11 a0_12 a0_13 a0_14 a0_15 a0_16 = (5, 0, 0, 0, 1, 0) := by
      rw [pln_eq _ _ _ _ _ _ _ _ _ _ _ _ _ _ _ _ _ hc, rule, hp, hs, ho, if_neg (show ¬ (!a0_1) = true by rw [h1]; decide), if_neg (Bool.eq_false_iff.mp t1), if_neg (Bool.eq_false_iff.mp t2), if_neg (Bool.eq_false_iff.mp t3), if_neg (Bool.eq_false_iff.mp t4), if_neg (Bool.eq_false_iff.mp t5), if_neg (Bool.eq_false_iff.mp t6), if_neg (Bool.eq_false_iff.mp t7), if_neg (Bool.eq_false_iff.mp t8), if_neg (Bool.eq_false_iff.mp t9), if_neg (Bool.eq_false_iff.mp t10), if_neg (Bool.eq_false_iff.mp t11), if_neg (Bool.eq_false_iff.mp t12), if_neg (Bool.eq_false_iff.mp t13), if_neg (Bool.eq_false_iff.mp t14)]
    have hu2 : out a0_0 a0_1 a0_2 a0_3 a0_4 a0_5 a0_6 a0_7 a0_8 a0_9 a0_10 a0_11 a0_12 a0_13 a0_14 a0_15 a0_16 = (a0_0, a0_1, a0_2, a0_3, a0_4, a0_5, a0_6, a0_7, a0_8, a0_9, a0_10, a0_11, true, a0_13, a0_14, a0_15, a0_16, false, 0) := by
      rw [out, hp, hs, ho, if_neg (show ¬ (!a0_1) = true by rw [h1]; decide), if_neg (Bool.eq_false_iff.mp t1), if_neg (Bool.eq_false_iff.mp t2), if_neg (Bool.eq_false_iff.mp t3), if_neg (Bool.eq_false_iff.mp t4), if_neg (Bool.eq_false_iff.mp t5), if_neg (Bool.eq_false_iff.mp t6), if_neg (Bool.eq_false_iff.mp t7), if_neg (Bool.eq_false_iff.mp t8), if_neg (Bool.eq_false_iff.mp t9), if_neg (Bool.eq_false_iff.mp t10), if_neg (Bool.eq_false_iff.mp t11), if_neg (Bool.eq_false_iff.mp t12), if_neg (Bool.eq_false_iff.mp t13), if_neg (Bool.eq_false_iff.mp t14)]
    have hk := st_all e he (a0_2 == 1) (decide (0 < a0_16)) a0_0 a0_3 a0_4 a0_5 a0_6 a0_8 a0_9 a0_10 a0_11 a0_12 a0_13 a0_14 a0_15 hb
    unfold stepB at hk
    rw [hi] at hk
    try dsimp only at hk
    have pq := prB_out (Bool.and_eq_true_iff.mp hk).2
    replace hk := (Bool.and_eq_true_iff.mp hk).1
    exact Or.inr ⟨e, a0_0, a0_1, a0_2, a0_3, a0_4, a0_5, a0_6, a0_7, a0_8, a0_9, a0_10, a0_11, true, a0_13, a0_14, a0_15, a0_16, by rw [aft, if_pos hc, hu2], fin_ok (e) a0_0 a0_1 a0_2 a0_3 a0_4 a0_5 a0_6 a0_7 a0_8 a0_9 a0_10 a0_11 true a0_13 a0_14 a0_15 a0_16 _ (by exact h7e) (by omega) h1 (by first | exact hm0 | decide) (by first | exact hm2 | decide) hpr (hk), by rw [hu]; exact ⟨(by decide : (5 : Int) ≠ 0), (by decide : (5 : Int) ≠ 1)⟩, (fun h3 => ⟨by rw [hu]; exact (by decide : (5 : Int) ≠ 7), (pq.1 h3).2⟩), (fun h3 => ⟨by rw [hu]; exact (by decide : (5 : Int) ≠ 9), (pq.2 h3).2⟩), rfl⟩
end Go.Proofs.Ytfobedaepflidaa.F

/- Of the faultplan laws: what Check and Plan compute, both of them: one list of rules. -/
import Derived.Test.YtfobedaepflidaaF3
set_option linter.unusedSimpArgs false
set_option linter.unusedVariables false
namespace Go.Proofs.Ytfobedaepflidaa.F
open Go.RowKit Go.Proofs.YtfobedaepflidaaW.PrintWords Go.Proofs.YtfobedaepflidaaW.PrintLast

def chk (a0_0 : Bool) (a0_1 : Bool) (a0_2 : Int) (a0_3 : Bool) (a0_4 : Bool) (a0_5 : Bool) (a0_6 : Bool) (a0_7 : Int) (a0_8 : Bool) (a0_9 : Bool) (a0_10 : Bool) (a0_11 : Bool) (a0_12 : Bool) (a0_13 : Bool) (a0_14 : Bool) (a0_15 : Bool) (a0_16 : Int) : Int := if a0_7 = 0 ∨ a0_7 = 1 ∨ a0_7 = 2 ∨ a0_7 = 3 then (if a0_16 < 0 ∨ 2 < a0_16 then 2 else (if a0_1 = true then (if a0_2 = 1 ∨ a0_2 = 3 then (if (faultplan_suits.bad a0_0 a0_1 a0_2 a0_3 a0_4 a0_5 a0_6 a0_7 a0_8 a0_9 a0_10 a0_11 a0_12 a0_13 a0_14 a0_15 a0_16).any id = true then 3 else 0) else 1) else 0)) else 1
theorem chk_j2 (k : Nat) (a0_0 : Bool) (a0_1 : Bool) (a0_2 : Int) (a0_3 : Bool) (a0_4 : Bool) (a0_5 : Bool) (a0_6 : Bool) (a0_7 : Int) (a0_8 : Bool) (a0_9 : Bool) (a0_10 : Bool) (a0_11 : Bool) (a0_12 : Bool) (a0_13 : Bool) (a0_14 : Bool) (a0_15 : Bool) (a0_16 : Int) (h : a0_2 = 1 ∨ a0_2 = 3) : faultplan_Check.j2 (k + 1) false a0_0 a0_1 a0_2 a0_3 a0_4 a0_5 a0_6 a0_7 a0_8 a0_9 a0_10 a0_11 a0_12 a0_13 a0_14 a0_15 a0_16 = some (if (faultplan_suits.bad a0_0 a0_1 a0_2 a0_3 a0_4 a0_5 a0_6 a0_7 a0_8 a0_9 a0_10 a0_11 a0_12 a0_13 a0_14 a0_15 a0_16).any id = true then 3 else 0) := by
  simp only [faultplan_Check.j2, faultplan_suits.f, if_pos h, Option.bind_some, Bool.false_eq_true, if_false]
  cases (faultplan_suits.bad a0_0 a0_1 a0_2 a0_3 a0_4 a0_5 a0_6 a0_7 a0_8 a0_9 a0_10 a0_11 a0_12 a0_13 a0_14 a0_15 a0_16).any id <;> rfl
theorem chk_j1 (k : Nat) (b : Bool) (a0_0 : Bool) (a0_1 : Bool) (a0_2 : Int) (a0_3 : Bool) (a0_4 : Bool) (a0_5 : Bool) (a0_6 : Bool) (a0_7 : Int) (a0_8 : Bool) (a0_9 : Bool) (a0_10 : Bool) (a0_11 : Bool) (a0_12 : Bool) (a0_13 : Bool) (a0_14 : Bool) (a0_15 : Bool) (a0_16 : Int) : faultplan_Check.j1 (k + 2) b a0_0 a0_1 a0_2 a0_3 a0_4 a0_5 a0_6 a0_7 a0_8 a0_9 a0_10 a0_11 a0_12 a0_13 a0_14 a0_15 a0_16 = some (if b = true then 2 else if a0_1 = true then (if a0_2 = 1 ∨ a0_2 = 3 then (if (faultplan_suits.bad a0_0 a0_1 a0_2 a0_3 a0_4 a0_5 a0_6 a0_7 a0_8 a0_9 a0_10 a0_11 a0_12 a0_13 a0_14 a0_15 a0_16).any id = true then 3 else 0) else 1) else 0) := by
  unfold faultplan_Check.j1
  cases b
  · cases a0_1
    · rfl
    · simp only [Bool.false_eq_true, if_false, if_true]
      by_cases h1 : a0_2 = 1
      · rw [if_pos h1, if_pos (Or.inl h1), chk_j2 _ _ _ _ _ _ _ _ _ _ _ _ _ _ _ _ _ _ (Or.inl h1)]
      · rw [if_neg h1]
        by_cases h3 : a0_2 = 3
        · rw [if_pos (Or.inr h3), show (a0_2 != 3) = false by simp [h3], chk_j2 _ _ _ _ _ _ _ _ _ _ _ _ _ _ _ _ _ _ (Or.inr h3)]
        · rw [if_neg (fun h => h.elim h1 h3), show (a0_2 != 3) = true by simp [h3]]
          rfl
  · rfl
theorem chk_j0 (k : Nat) (a0_0 : Bool) (a0_1 : Bool) (a0_2 : Int) (a0_3 : Bool) (a0_4 : Bool) (a0_5 : Bool) (a0_6 : Bool) (a0_7 : Int) (a0_8 : Bool) (a0_9 : Bool) (a0_10 : Bool) (a0_11 : Bool) (a0_12 : Bool) (a0_13 : Bool) (a0_14 : Bool) (a0_15 : Bool) (a0_16 : Int) : faultplan_Check.j0 (k + 3) a0_0 a0_1 a0_2 a0_3 a0_4 a0_5 a0_6 a0_7 a0_8 a0_9 a0_10 a0_11 a0_12 a0_13 a0_14 a0_15 a0_16 = some (if a0_16 < 0 ∨ 2 < a0_16 then 2 else if a0_1 = true then (if a0_2 = 1 ∨ a0_2 = 3 then (if (faultplan_suits.bad a0_0 a0_1 a0_2 a0_3 a0_4 a0_5 a0_6 a0_7 a0_8 a0_9 a0_10 a0_11 a0_12 a0_13 a0_14 a0_15 a0_16).any id = true then 3 else 0) else 1) else 0) := by
  simp only [faultplan_Check.j0, chk_j1]
  by_cases h0 : a0_16 < 0
  · simp [h0]
  · by_cases h2 : 2 < a0_16
    · simp [h0, h2]
    · simp [h0, h2]
theorem chk_ev (k : Nat) (a0_0 : Bool) (a0_1 : Bool) (a0_2 : Int) (a0_3 : Bool) (a0_4 : Bool) (a0_5 : Bool) (a0_6 : Bool) (a0_7 : Int) (a0_8 : Bool) (a0_9 : Bool) (a0_10 : Bool) (a0_11 : Bool) (a0_12 : Bool) (a0_13 : Bool) (a0_14 : Bool) (a0_15 : Bool) (a0_16 : Int) : faultplan_Check.f (k + 3) a0_0 a0_1 a0_2 a0_3 a0_4 a0_5 a0_6 a0_7 a0_8 a0_9 a0_10 a0_11 a0_12 a0_13 a0_14 a0_15 a0_16 = some (chk a0_0 a0_1 a0_2 a0_3 a0_4 a0_5 a0_6 a0_7 a0_8 a0_9 a0_10 a0_11 a0_12 a0_13 a0_14 a0_15 a0_16) := by
  unfold faultplan_Check.f chk
  rw [chk_j0]
  by_cases h0 : a0_7 = 0
  · simp only [h0, if_true, true_or]
  · by_cases h1 : a0_7 = 1
    · simp only [h0, h1, if_true, if_false, true_or, or_true]; rfl
    · by_cases h2 : a0_7 = 2
      · simp only [h0, h1, h2, if_true, if_false, true_or, or_true]; rfl
      · by_cases h3 : a0_7 = 3
        · simp only [h0, h1, h2, h3, if_true, if_false, true_or, or_true]; rfl
        · simp only [h0, h1, h2, h3, if_false, or_self]
end Go.Proofs.Ytfobedaepflidaa.F

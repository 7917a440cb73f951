/- Of the faultplan laws: the two Checks compute the same. -/
import Derived.Test.YtfobedaepflidaaFPA
import Derived.Test.YtfobedaepflidaaF6
set_option linter.unusedSimpArgs false
set_option linter.unusedVariables false
namespace Go.Proofs.Ytfobedaepflidaa.F
open Go.RowKit Go.Proofs.YtfobedaepflidaaW.PrintWords Go.Proofs.YtfobedaepflidaaW.PrintLast

theorem bad_same (a0_0 : Bool) (a0_1 : Bool) (a0_2 : Int) (a0_3 : Bool) (a0_4 : Bool) (a0_5 : Bool) (a0_6 : Bool) (a0_7 : Int) (a0_8 : Bool) (a0_9 : Bool) (a0_10 : Bool) (a0_11 : Bool) (a0_12 : Bool) (a0_13 : Bool) (a0_14 : Bool) (a0_15 : Bool) (a0_16 : Int) (h : a0_2 = 1 ∨ a0_2 = 3) : (estoversref26_form.bad a0_0 a0_1 a0_2 a0_3 a0_4 a0_5 a0_6 a0_7 a0_8 a0_9 a0_10 a0_11 a0_12 a0_13 a0_14 a0_15 a0_16).any id = (faultplan_suits.bad a0_0 a0_1 a0_2 a0_3 a0_4 a0_5 a0_6 a0_7 a0_8 a0_9 a0_10 a0_11 a0_12 a0_13 a0_14 a0_15 a0_16).any id := by
  have e : (a0_2 == 1) = !(a0_2 == 3) := by rcases h with rfl | rfl <;> rfl
  simp only [estoversref26_form.bad, faultplan_suits.bad, List.any_cons, List.any_nil, id, Bool.or_false, e, bne, Bool.or_assoc]
theorem rchk_j2 (k : Nat) (a0_0 : Bool) (a0_1 : Bool) (a0_2 : Int) (a0_3 : Bool) (a0_4 : Bool) (a0_5 : Bool) (a0_6 : Bool) (a0_7 : Int) (a0_8 : Bool) (a0_9 : Bool) (a0_10 : Bool) (a0_11 : Bool) (a0_12 : Bool) (a0_13 : Bool) (a0_14 : Bool) (a0_15 : Bool) (a0_16 : Int) (h : a0_2 = 1 ∨ a0_2 = 3) : estoversref26_Check.j2 (k + 1) false a0_0 a0_1 a0_2 a0_3 a0_4 a0_5 a0_6 a0_7 a0_8 a0_9 a0_10 a0_11 a0_12 a0_13 a0_14 a0_15 a0_16 = some (if (faultplan_suits.bad a0_0 a0_1 a0_2 a0_3 a0_4 a0_5 a0_6 a0_7 a0_8 a0_9 a0_10 a0_11 a0_12 a0_13 a0_14 a0_15 a0_16).any id = true then 3 else 0) := by
  simp only [estoversref26_Check.j2, estoversref26_form.f, bad_same _ _ _ _ _ _ _ _ _ _ _ _ _ _ _ _ _ h, Option.bind_some, Bool.false_eq_true, if_false]
  cases (faultplan_suits.bad a0_0 a0_1 a0_2 a0_3 a0_4 a0_5 a0_6 a0_7 a0_8 a0_9 a0_10 a0_11 a0_12 a0_13 a0_14 a0_15 a0_16).any id <;> rfl
theorem rchk_j1 (k : Nat) (b : Bool) (a0_0 : Bool) (a0_1 : Bool) (a0_2 : Int) (a0_3 : Bool) (a0_4 : Bool) (a0_5 : Bool) (a0_6 : Bool) (a0_7 : Int) (a0_8 : Bool) (a0_9 : Bool) (a0_10 : Bool) (a0_11 : Bool) (a0_12 : Bool) (a0_13 : Bool) (a0_14 : Bool) (a0_15 : Bool) (a0_16 : Int) : estoversref26_Check.j1 (k + 2) b a0_0 a0_1 a0_2 a0_3 a0_4 a0_5 a0_6 a0_7 a0_8 a0_9 a0_10 a0_11 a0_12 a0_13 a0_14 a0_15 a0_16 = some (if b = true then 2 else if a0_1 = true then (if a0_2 = 1 ∨ a0_2 = 3 then (if (faultplan_suits.bad a0_0 a0_1 a0_2 a0_3 a0_4 a0_5 a0_6 a0_7 a0_8 a0_9 a0_10 a0_11 a0_12 a0_13 a0_14 a0_15 a0_16).any id = true then 3 else 0) else 1) else 0) := by
  unfold estoversref26_Check.j1
  cases b
  · cases a0_1
    · rfl
    · simp only [Bool.false_eq_true, if_false, if_true, estoversref26_writes.f, Option.bind_some]
      by_cases h1 : a0_2 = 1
      · rw [if_pos h1, if_pos (Or.inl h1), rchk_j2 _ _ _ _ _ _ _ _ _ _ _ _ _ _ _ _ _ _ (Or.inl h1)]
      · rw [if_neg h1]
        by_cases h3 : a0_2 = 3
        · rw [if_pos (Or.inr h3), show (!(a0_2 == 3)) = false by simp [h3], rchk_j2 _ _ _ _ _ _ _ _ _ _ _ _ _ _ _ _ _ _ (Or.inr h3)]
        · rw [if_neg (fun h => h.elim h1 h3), show (!(a0_2 == 3)) = true by simp [h3]]
          rfl
  · rfl
theorem rchk_j0 (k : Nat) (b : Bool) (a0_0 : Bool) (a0_1 : Bool) (a0_2 : Int) (a0_3 : Bool) (a0_4 : Bool) (a0_5 : Bool) (a0_6 : Bool) (a0_7 : Int) (a0_8 : Bool) (a0_9 : Bool) (a0_10 : Bool) (a0_11 : Bool) (a0_12 : Bool) (a0_13 : Bool) (a0_14 : Bool) (a0_15 : Bool) (a0_16 : Int) : estoversref26_Check.j0 (k + 3) b a0_0 a0_1 a0_2 a0_3 a0_4 a0_5 a0_6 a0_7 a0_8 a0_9 a0_10 a0_11 a0_12 a0_13 a0_14 a0_15 a0_16 = some (if b = true then 1 else if a0_16 < 0 ∨ 2 < a0_16 then 2 else if a0_1 = true then (if a0_2 = 1 ∨ a0_2 = 3 then (if (faultplan_suits.bad a0_0 a0_1 a0_2 a0_3 a0_4 a0_5 a0_6 a0_7 a0_8 a0_9 a0_10 a0_11 a0_12 a0_13 a0_14 a0_15 a0_16).any id = true then 3 else 0) else 1) else 0) := by
  simp only [estoversref26_Check.j0, rchk_j1]
  cases b
  · by_cases h0 : a0_16 < 0
    · simp [h0]
    · by_cases h2 : 2 < a0_16
      · simp [h0, h2]
      · simp [h0, h2]
  · rfl
theorem rchk_ev (k : Nat) (a0_0 : Bool) (a0_1 : Bool) (a0_2 : Int) (a0_3 : Bool) (a0_4 : Bool) (a0_5 : Bool) (a0_6 : Bool) (a0_7 : Int) (a0_8 : Bool) (a0_9 : Bool) (a0_10 : Bool) (a0_11 : Bool) (a0_12 : Bool) (a0_13 : Bool) (a0_14 : Bool) (a0_15 : Bool) (a0_16 : Int) : estoversref26_Check.f (k + 3) a0_0 a0_1 a0_2 a0_3 a0_4 a0_5 a0_6 a0_7 a0_8 a0_9 a0_10 a0_11 a0_12 a0_13 a0_14 a0_15 a0_16 = some (chk a0_0 a0_1 a0_2 a0_3 a0_4 a0_5 a0_6 a0_7 a0_8 a0_9 a0_10 a0_11 a0_12 a0_13 a0_14 a0_15 a0_16) := by
  unfold estoversref26_Check.f chk
  rw [rchk_j0, rchk_j0]
  by_cases h0 : a0_7 < 0
  · rw [if_pos h0, if_neg (by omega : ¬ (a0_7 = 0 ∨ a0_7 = 1 ∨ a0_7 = 2 ∨ a0_7 = 3))]
    rfl
  · rw [if_neg h0]
    by_cases h3 : a0_7 > 3
    · rw [if_neg (by omega : ¬ (a0_7 = 0 ∨ a0_7 = 1 ∨ a0_7 = 2 ∨ a0_7 = 3)), decide_eq_true h3]
      rfl
    · rw [if_pos (by omega : (a0_7 = 0 ∨ a0_7 = 1 ∨ a0_7 = 2 ∨ a0_7 = 3)), decide_eq_false h3]
      rfl
end Go.Proofs.Ytfobedaepflidaa.F

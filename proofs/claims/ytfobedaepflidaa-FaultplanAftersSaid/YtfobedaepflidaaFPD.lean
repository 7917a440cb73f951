/- Of the faultplan laws: the rules one by one. -/
import Derived.Test.YtfobedaepflidaaFPE
import Derived.Test.YtfobedaepflidaaFPC
set_option linter.unusedSimpArgs false
set_option linter.unusedVariables false
namespace Go.Proofs.Ytfobedaepflidaa.F
open Go.RowKit Go.Proofs.YtfobedaepflidaaW.PrintWords Go.Proofs.YtfobedaepflidaaW.PrintLast

theorem rule_cases {P : Int × Int × Int × Int × Int × Int → Prop} (o p s : Bool) (a0_0 : Bool) (a0_1 : Bool) (a0_2 : Int) (a0_3 : Bool) (a0_4 : Bool) (a0_5 : Bool) (a0_6 : Bool) (a0_7 : Int) (a0_8 : Bool) (a0_9 : Bool) (a0_10 : Bool) (a0_11 : Bool) (a0_12 : Bool) (a0_13 : Bool) (a0_14 : Bool) (a0_15 : Bool) (a0_16 : Int) (h0 : (!a0_1) = true → P (1, 13, 0, 0, 0, 0)) (h1 : (!a0_1) = false → ((a0_0 && (a0_2 == 1))) = true → P (1, 12, 0, 0, 0, 0)) (h2 : (!a0_1) = false → ((a0_0 && (a0_2 == 1))) = false → ((a0_5 && !o)) = true → P (1, 14, 0, 0, 0, 0)) (h3 : (!a0_1) = false → ((a0_0 && (a0_2 == 1))) = false → ((a0_5 && !o)) = false → ((p && (!a0_0 || a0_8))) = true → P (0, 0, 0, 0, 0, 0)) (h4 : (!a0_1) = false → ((a0_0 && (a0_2 == 1))) = false → ((a0_5 && !o)) = false → ((p && (!a0_0 || a0_8))) = false → ((a0_6 && !o)) = true → P (2, 0, 4, 0, 0, 0)) (h5 : (!a0_1) = false → ((a0_0 && (a0_2 == 1))) = false → ((a0_5 && !o)) = false → ((p && (!a0_0 || a0_8))) = false → ((a0_6 && !o)) = false → (a0_9) = true → P (2, 0, 3, 0, 0, 0)) (h6 : (!a0_1) = false → ((a0_0 && (a0_2 == 1))) = false → ((a0_5 && !o)) = false → ((p && (!a0_0 || a0_8))) = false → ((a0_6 && !o)) = false → (a0_9) = false → ((p && a0_10 && a0_11)) = true → P (8, 0, 0, 0, 0, 0)) (h7 : (!a0_1) = false → ((a0_0 && (a0_2 == 1))) = false → ((a0_5 && !o)) = false → ((p && (!a0_0 || a0_8))) = false → ((a0_6 && !o)) = false → (a0_9) = false → ((p && a0_10 && a0_11)) = false → ((p && (a0_10 || !a0_3))) = true → P (9, 0, 0, 0, 1, 0)) (h8 : (!a0_1) = false → ((a0_0 && (a0_2 == 1))) = false → ((a0_5 && !o)) = false → ((p && (!a0_0 || a0_8))) = false → ((a0_6 && !o)) = false → (a0_9) = false → ((p && a0_10 && a0_11)) = false → ((p && (a0_10 || !a0_3))) = false → ((p && !a0_14 && a0_15)) = true → P (2, 0, 5, 0, 0, 0)) (h9 : (!a0_1) = false → ((a0_0 && (a0_2 == 1))) = false → ((a0_5 && !o)) = false → ((p && (!a0_0 || a0_8))) = false → ((a0_6 && !o)) = false → (a0_9) = false → ((p && a0_10 && a0_11)) = false → ((p && (a0_10 || !a0_3))) = false → ((p && !a0_14 && a0_15)) = false → (p) = true → P (7, 0, 0, 0, 0, 0)) (h10 : (!a0_1) = false → ((a0_0 && (a0_2 == 1))) = false → ((a0_5 && !o)) = false → ((p && (!a0_0 || a0_8))) = false → ((a0_6 && !o)) = false → (a0_9) = false → ((p && a0_10 && a0_11)) = false → ((p && (a0_10 || !a0_3))) = false → ((p && !a0_14 && a0_15)) = false → (p) = false → ((s && a0_12)) = true → P (10, 0, 0, 0, 0, 0)) (h11 : (!a0_1) = false → ((a0_0 && (a0_2 == 1))) = false → ((a0_5 && !o)) = false → ((p && (!a0_0 || a0_8))) = false → ((a0_6 && !o)) = false → (a0_9) = false → ((p && a0_10 && a0_11)) = false → ((p && (a0_10 || !a0_3))) = false → ((p && !a0_14 && a0_15)) = false → (p) = false → ((s && a0_12)) = false → (s) = true → P (11, 0, 0, 0, 1, 0)) (h12 : (!a0_1) = false → ((a0_0 && (a0_2 == 1))) = false → ((a0_5 && !o)) = false → ((p && (!a0_0 || a0_8))) = false → ((a0_6 && !o)) = false → (a0_9) = false → ((p && a0_10 && a0_11)) = false → ((p && (a0_10 || !a0_3))) = false → ((p && !a0_14 && a0_15)) = false → (p) = false → ((s && a0_12)) = false → (s) = false → (!a0_4) = true → P (3, 0, 0, a0_16, 1, 0)) (h13 : (!a0_1) = false → ((a0_0 && (a0_2 == 1))) = false → ((a0_5 && !o)) = false → ((p && (!a0_0 || a0_8))) = false → ((a0_6 && !o)) = false → (a0_9) = false → ((p && a0_10 && a0_11)) = false → ((p && (a0_10 || !a0_3))) = false → ((p && !a0_14 && a0_15)) = false → (p) = false → ((s && a0_12)) = false → (s) = false → (!a0_4) = false → (a0_12) = true → P (6, 0, 0, a0_16, 0, 0)) (h14 : (!a0_1) = false → ((a0_0 && (a0_2 == 1))) = false → ((a0_5 && !o)) = false → ((p && (!a0_0 || a0_8))) = false → ((a0_6 && !o)) = false → (a0_9) = false → ((p && a0_10 && a0_11)) = false → ((p && (a0_10 || !a0_3))) = false → ((p && !a0_14 && a0_15)) = false → (p) = false → ((s && a0_12)) = false → (s) = false → (!a0_4) = false → (a0_12) = false → (!a0_13) = true → P (4, 0, 0, a0_16, 1, 0)) (h15 : (!a0_1) = false → ((a0_0 && (a0_2 == 1))) = false → ((a0_5 && !o)) = false → ((p && (!a0_0 || a0_8))) = false → ((a0_6 && !o)) = false → (a0_9) = false → ((p && a0_10 && a0_11)) = false → ((p && (a0_10 || !a0_3))) = false → ((p && !a0_14 && a0_15)) = false → (p) = false → ((s && a0_12)) = false → (s) = false → (!a0_4) = false → (a0_12) = false → (!a0_13) = false → P (5, 0, 0, 0, 1, 0)) : P (rule o p s a0_0 a0_1 a0_2 a0_3 a0_4 a0_5 a0_6 a0_7 a0_8 a0_9 a0_10 a0_11 a0_12 a0_13 a0_14 a0_15 a0_16) := by
  unfold rule
  rcases Bool.eq_false_or_eq_true (!a0_1) with t0 | t0
  · rw [if_pos t0]
    exact h0 t0
  rw [if_neg (Bool.eq_false_iff.mp t0)]
  rcases Bool.eq_false_or_eq_true ((a0_0 && (a0_2 == 1))) with t1 | t1
  · rw [if_pos t1]
    exact h1 t0 t1
  rw [if_neg (Bool.eq_false_iff.mp t1)]
  rcases Bool.eq_false_or_eq_true ((a0_5 && !o)) with t2 | t2
  · rw [if_pos t2]
    exact h2 t0 t1 t2
  rw [if_neg (Bool.eq_false_iff.mp t2)]
  rcases Bool.eq_false_or_eq_true ((p && (!a0_0 || a0_8))) with t3 | t3
  · rw [if_pos t3]
    exact h3 t0 t1 t2 t3
  rw [if_neg (Bool.eq_false_iff.mp t3)]
  rcases Bool.eq_false_or_eq_true ((a0_6 && !o)) with t4 | t4
  · rw [if_pos t4]
    exact h4 t0 t1 t2 t3 t4
  rw [if_neg (Bool.eq_false_iff.mp t4)]
  rcases Bool.eq_false_or_eq_true (a0_9) with t5 | t5
  · rw [if_pos t5]
    exact h5 t0 t1 t2 t3 t4 t5
  rw [if_neg (Bool.eq_false_iff.mp t5)]
  rcases Bool.eq_false_or_eq_true ((p && a0_10 && a0_11)) with t6 | t6
  · rw [if_pos t6]
    exact h6 t0 t1 t2 t3 t4 t5 t6
  rw [if_neg (Bool.eq_false_iff.mp t6)]
  rcases Bool.eq_false_or_eq_true ((p && (a0_10 || !a0_3))) with t7 | t7
  · rw [if_pos t7]
    exact h7 t0 t1 t2 t3 t4 t5 t6 t7
  rw [if_neg (Bool.eq_false_iff.mp t7)]
  rcases Bool.eq_false_or_eq_true ((p && !a0_14 && a0_15)) with t8 | t8
  · rw [if_pos t8]
    exact h8 t0 t1 t2 t3 t4 t5 t6 t7 t8
  rw [if_neg (Bool.eq_false_iff.mp t8)]
  rcases Bool.eq_false_or_eq_true (p) with t9 | t9
  · rw [if_pos t9]
    exact h9 t0 t1 t2 t3 t4 t5 t6 t7 t8 t9
  rw [if_neg (Bool.eq_false_iff.mp t9)]
  rcases Bool.eq_false_or_eq_true ((s && a0_12)) with t10 | t10
  · rw [if_pos t10]
    exact h10 t0 t1 t2 t3 t4 t5 t6 t7 t8 t9 t10
  rw [if_neg (Bool.eq_false_iff.mp t10)]
  rcases Bool.eq_false_or_eq_true (s) with t11 | t11
  · rw [if_pos t11]
    exact h11 t0 t1 t2 t3 t4 t5 t6 t7 t8 t9 t10 t11
  rw [if_neg (Bool.eq_false_iff.mp t11)]
  rcases Bool.eq_false_or_eq_true (!a0_4) with t12 | t12
  · rw [if_pos t12]
    exact h12 t0 t1 t2 t3 t4 t5 t6 t7 t8 t9 t10 t11 t12
  rw [if_neg (Bool.eq_false_iff.mp t12)]
  rcases Bool.eq_false_or_eq_true (a0_12) with t13 | t13
  · rw [if_pos t13]
    exact h13 t0 t1 t2 t3 t4 t5 t6 t7 t8 t9 t10 t11 t12 t13
  rw [if_neg (Bool.eq_false_iff.mp t13)]
  rcases Bool.eq_false_or_eq_true (!a0_13) with t14 | t14
  · rw [if_pos t14]
    exact h14 t0 t1 t2 t3 t4 t5 t6 t7 t8 t9 t10 t11 t12 t13 t14
  rw [if_neg (Bool.eq_false_iff.mp t14)]
  exact h15 t0 t1 t2 t3 t4 t5 t6 t7 t8 t9 t10 t11 t12 t13 t14
theorem pln_eq (a0_0 : Bool) (a0_1 : Bool) (a0_2 : Int) (a0_3 : Bool) (a0_4 : Bool) (a0_5 : Bool) (a0_6 : Bool) (a0_7 : Int) (a0_8 : Bool) (a0_9 : Bool) (a0_10 : Bool) (a0_11 : Bool) (a0_12 : Bool) (a0_13 : Bool) (a0_14 : Bool) (a0_15 : Bool) (a0_16 : Int) (h : chk a0_0 a0_1 a0_2 a0_3 a0_4 a0_5 a0_6 a0_7 a0_8 a0_9 a0_10 a0_11 a0_12 a0_13 a0_14 a0_15 a0_16 = 0) : pln a0_0 a0_1 a0_2 a0_3 a0_4 a0_5 a0_6 a0_7 a0_8 a0_9 a0_10 a0_11 a0_12 a0_13 a0_14 a0_15 a0_16 = rule (own a0_7 a0_10) (a0_7 == 1) (a0_7 == 2) a0_0 a0_1 a0_2 a0_3 a0_4 a0_5 a0_6 a0_7 a0_8 a0_9 a0_10 a0_11 a0_12 a0_13 a0_14 a0_15 a0_16 := if_pos h
theorem pln_bad_eq (a0_0 : Bool) (a0_1 : Bool) (a0_2 : Int) (a0_3 : Bool) (a0_4 : Bool) (a0_5 : Bool) (a0_6 : Bool) (a0_7 : Int) (a0_8 : Bool) (a0_9 : Bool) (a0_10 : Bool) (a0_11 : Bool) (a0_12 : Bool) (a0_13 : Bool) (a0_14 : Bool) (a0_15 : Bool) (a0_16 : Int) (h : chk a0_0 a0_1 a0_2 a0_3 a0_4 a0_5 a0_6 a0_7 a0_8 a0_9 a0_10 a0_11 a0_12 a0_13 a0_14 a0_15 a0_16 ≠ 0) : pln a0_0 a0_1 a0_2 a0_3 a0_4 a0_5 a0_6 a0_7 a0_8 a0_9 a0_10 a0_11 a0_12 a0_13 a0_14 a0_15 a0_16 = (0, 0, 0, 0, 0, chk a0_0 a0_1 a0_2 a0_3 a0_4 a0_5 a0_6 a0_7 a0_8 a0_9 a0_10 a0_11 a0_12 a0_13 a0_14 a0_15 a0_16) := if_neg h
theorem pln_ok (a0_0 : Bool) (a0_1 : Bool) (a0_2 : Int) (a0_3 : Bool) (a0_4 : Bool) (a0_5 : Bool) (a0_6 : Bool) (a0_7 : Int) (a0_8 : Bool) (a0_9 : Bool) (a0_10 : Bool) (a0_11 : Bool) (a0_12 : Bool) (a0_13 : Bool) (a0_14 : Bool) (a0_15 : Bool) (a0_16 : Int) (h : chk a0_0 a0_1 a0_2 a0_3 a0_4 a0_5 a0_6 a0_7 a0_8 a0_9 a0_10 a0_11 a0_12 a0_13 a0_14 a0_15 a0_16 = 0) : (pln a0_0 a0_1 a0_2 a0_3 a0_4 a0_5 a0_6 a0_7 a0_8 a0_9 a0_10 a0_11 a0_12 a0_13 a0_14 a0_15 a0_16).2.2.2.2.2 = 0 := by
  rw [pln_eq _ _ _ _ _ _ _ _ _ _ _ _ _ _ _ _ _ h]
  apply rule_cases (P := fun u => u.2.2.2.2.2 = 0)
  all_goals intros; rfl
theorem pln_bad (a0_0 : Bool) (a0_1 : Bool) (a0_2 : Int) (a0_3 : Bool) (a0_4 : Bool) (a0_5 : Bool) (a0_6 : Bool) (a0_7 : Int) (a0_8 : Bool) (a0_9 : Bool) (a0_10 : Bool) (a0_11 : Bool) (a0_12 : Bool) (a0_13 : Bool) (a0_14 : Bool) (a0_15 : Bool) (a0_16 : Int) (h : chk a0_0 a0_1 a0_2 a0_3 a0_4 a0_5 a0_6 a0_7 a0_8 a0_9 a0_10 a0_11 a0_12 a0_13 a0_14 a0_15 a0_16 ≠ 0) : (pln a0_0 a0_1 a0_2 a0_3 a0_4 a0_5 a0_6 a0_7 a0_8 a0_9 a0_10 a0_11 a0_12 a0_13 a0_14 a0_15 a0_16).2.2.2.2.2 ≠ 0 := by
  rw [pln_bad_eq _ _ _ _ _ _ _ _ _ _ _ _ _ _ _ _ _ h]
  exact h
theorem pln_err (a0_0 : Bool) (a0_1 : Bool) (a0_2 : Int) (a0_3 : Bool) (a0_4 : Bool) (a0_5 : Bool) (a0_6 : Bool) (a0_7 : Int) (a0_8 : Bool) (a0_9 : Bool) (a0_10 : Bool) (a0_11 : Bool) (a0_12 : Bool) (a0_13 : Bool) (a0_14 : Bool) (a0_15 : Bool) (a0_16 : Int) (h : chk a0_0 a0_1 a0_2 a0_3 a0_4 a0_5 a0_6 a0_7 a0_8 a0_9 a0_10 a0_11 a0_12 a0_13 a0_14 a0_15 a0_16 = 0) : (pln a0_0 a0_1 a0_2 a0_3 a0_4 a0_5 a0_6 a0_7 a0_8 a0_9 a0_10 a0_11 a0_12 a0_13 a0_14 a0_15 a0_16).2.1 = if a0_1 = false then 13 else (if (a0_0 && (a0_2 == 1)) = true then 12 else (if (a0_5 && !(own a0_7 a0_10)) = true then 14 else 0)) := by
  rw [pln_eq _ _ _ _ _ _ _ _ _ _ _ _ _ _ _ _ _ h]
  apply rule_cases (P := fun u => u.2.1 = if a0_1 = false then 13 else (if (a0_0 && (a0_2 == 1)) = true then 12 else (if (a0_5 && !(own a0_7 a0_10)) = true then 14 else 0)))
  · intro t0
    rw [if_pos (by simpa using t0)]
  · intro t0 t1
    rw [if_neg (by simpa using t0), if_pos t1]
  · intro t0 t1 t2
    rw [if_neg (by simpa using t0), if_neg (Bool.eq_false_iff.mp t1), if_pos t2]
  all_goals
    intro t0 t1 t2
    intros
    rw [if_neg (by simpa using t0), if_neg (Bool.eq_false_iff.mp t1), if_neg (Bool.eq_false_iff.mp t2)]
theorem pln_vals (a0_0 : Bool) (a0_1 : Bool) (a0_2 : Int) (a0_3 : Bool) (a0_4 : Bool) (a0_5 : Bool) (a0_6 : Bool) (a0_7 : Int) (a0_8 : Bool) (a0_9 : Bool) (a0_10 : Bool) (a0_11 : Bool) (a0_12 : Bool) (a0_13 : Bool) (a0_14 : Bool) (a0_15 : Bool) (a0_16 : Int) (h : chk a0_0 a0_1 a0_2 a0_3 a0_4 a0_5 a0_6 a0_7 a0_8 a0_9 a0_10 a0_11 a0_12 a0_13 a0_14 a0_15 a0_16 = 0) : pln a0_0 a0_1 a0_2 a0_3 a0_4 a0_5 a0_6 a0_7 a0_8 a0_9 a0_10 a0_11 a0_12 a0_13 a0_14 a0_15 a0_16 = (1, 13, 0, 0, 0, 0) ∨ pln a0_0 a0_1 a0_2 a0_3 a0_4 a0_5 a0_6 a0_7 a0_8 a0_9 a0_10 a0_11 a0_12 a0_13 a0_14 a0_15 a0_16 = (1, 12, 0, 0, 0, 0) ∨ pln a0_0 a0_1 a0_2 a0_3 a0_4 a0_5 a0_6 a0_7 a0_8 a0_9 a0_10 a0_11 a0_12 a0_13 a0_14 a0_15 a0_16 = (1, 14, 0, 0, 0, 0) ∨ pln a0_0 a0_1 a0_2 a0_3 a0_4 a0_5 a0_6 a0_7 a0_8 a0_9 a0_10 a0_11 a0_12 a0_13 a0_14 a0_15 a0_16 = (0, 0, 0, 0, 0, 0) ∨ pln a0_0 a0_1 a0_2 a0_3 a0_4 a0_5 a0_6 a0_7 a0_8 a0_9 a0_10 a0_11 a0_12 a0_13 a0_14 a0_15 a0_16 = (2, 0, 4, 0, 0, 0) ∨ pln a0_0 a0_1 a0_2 a0_3 a0_4 a0_5 a0_6 a0_7 a0_8 a0_9 a0_10 a0_11 a0_12 a0_13 a0_14 a0_15 a0_16 = (2, 0, 3, 0, 0, 0) ∨ pln a0_0 a0_1 a0_2 a0_3 a0_4 a0_5 a0_6 a0_7 a0_8 a0_9 a0_10 a0_11 a0_12 a0_13 a0_14 a0_15 a0_16 = (8, 0, 0, 0, 0, 0) ∨ pln a0_0 a0_1 a0_2 a0_3 a0_4 a0_5 a0_6 a0_7 a0_8 a0_9 a0_10 a0_11 a0_12 a0_13 a0_14 a0_15 a0_16 = (9, 0, 0, 0, 1, 0) ∨ pln a0_0 a0_1 a0_2 a0_3 a0_4 a0_5 a0_6 a0_7 a0_8 a0_9 a0_10 a0_11 a0_12 a0_13 a0_14 a0_15 a0_16 = (2, 0, 5, 0, 0, 0) ∨ pln a0_0 a0_1 a0_2 a0_3 a0_4 a0_5 a0_6 a0_7 a0_8 a0_9 a0_10 a0_11 a0_12 a0_13 a0_14 a0_15 a0_16 = (7, 0, 0, 0, 0, 0) ∨ pln a0_0 a0_1 a0_2 a0_3 a0_4 a0_5 a0_6 a0_7 a0_8 a0_9 a0_10 a0_11 a0_12 a0_13 a0_14 a0_15 a0_16 = (10, 0, 0, 0, 0, 0) ∨ pln a0_0 a0_1 a0_2 a0_3 a0_4 a0_5 a0_6 a0_7 a0_8 a0_9 a0_10 a0_11 a0_12 a0_13 a0_14 a0_15 a0_16 = (11, 0, 0, 0, 1, 0) ∨ pln a0_0 a0_1 a0_2 a0_3 a0_4 a0_5 a0_6 a0_7 a0_8 a0_9 a0_10 a0_11 a0_12 a0_13 a0_14 a0_15 a0_16 = (3, 0, 0, a0_16, 1, 0) ∨ pln a0_0 a0_1 a0_2 a0_3 a0_4 a0_5 a0_6 a0_7 a0_8 a0_9 a0_10 a0_11 a0_12 a0_13 a0_14 a0_15 a0_16 = (6, 0, 0, a0_16, 0, 0) ∨ pln a0_0 a0_1 a0_2 a0_3 a0_4 a0_5 a0_6 a0_7 a0_8 a0_9 a0_10 a0_11 a0_12 a0_13 a0_14 a0_15 a0_16 = (4, 0, 0, a0_16, 1, 0) ∨ pln a0_0 a0_1 a0_2 a0_3 a0_4 a0_5 a0_6 a0_7 a0_8 a0_9 a0_10 a0_11 a0_12 a0_13 a0_14 a0_15 a0_16 = (5, 0, 0, 0, 1, 0) := by
  rw [pln_eq _ _ _ _ _ _ _ _ _ _ _ _ _ _ _ _ _ h]
  apply rule_cases (P := fun u => u = (1, 13, 0, 0, 0, 0) ∨ u = (1, 12, 0, 0, 0, 0) ∨ u = (1, 14, 0, 0, 0, 0) ∨ u = (0, 0, 0, 0, 0, 0) ∨ u = (2, 0, 4, 0, 0, 0) ∨ u = (2, 0, 3, 0, 0, 0) ∨ u = (8, 0, 0, 0, 0, 0) ∨ u = (9, 0, 0, 0, 1, 0) ∨ u = (2, 0, 5, 0, 0, 0) ∨ u = (7, 0, 0, 0, 0, 0) ∨ u = (10, 0, 0, 0, 0, 0) ∨ u = (11, 0, 0, 0, 1, 0) ∨ u = (3, 0, 0, a0_16, 1, 0) ∨ u = (6, 0, 0, a0_16, 0, 0) ∨ u = (4, 0, 0, a0_16, 1, 0) ∨ u = (5, 0, 0, 0, 1, 0))
  all_goals intros; simp
end Go.Proofs.Ytfobedaepflidaa.F

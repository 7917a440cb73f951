/- Of the faultplan laws: the reference's After computes the same. -/
import Derived.Test.YtfobedaepflidaaFPF
import Derived.Test.YtfobedaepflidaaFPG
import Derived.Test.YtfobedaepflidaaF22
set_option linter.unusedSimpArgs false
set_option linter.unusedVariables false
namespace Go.Proofs.Ytfobedaepflidaa.F
open Go.RowKit Go.Proofs.YtfobedaepflidaaW.PrintWords Go.Proofs.YtfobedaepflidaaW.PrintLast

set_option maxHeartbeats 4000000 in
theorem raft_ev (k : Nat) (a0_0 : Bool) (a0_1 : Bool) (a0_2 : Int) (a0_3 : Bool) (a0_4 : Bool) (a0_5 : Bool) (a0_6 : Bool) (a0_7 : Int) (a0_8 : Bool) (a0_9 : Bool) (a0_10 : Bool) (a0_11 : Bool) (a0_12 : Bool) (a0_13 : Bool) (a0_14 : Bool) (a0_15 : Bool) (a0_16 : Int) : estoversref26_After.f (k + 7) a0_0 a0_1 a0_2 a0_3 a0_4 a0_5 a0_6 a0_7 a0_8 a0_9 a0_10 a0_11 a0_12 a0_13 a0_14 a0_15 a0_16 = some (aft a0_0 a0_1 a0_2 a0_3 a0_4 a0_5 a0_6 a0_7 a0_8 a0_9 a0_10 a0_11 a0_12 a0_13 a0_14 a0_15 a0_16) := by
  unfold estoversref26_After.f aft
  rw [rpln_ev, Option.bind_some]
  by_cases h : chk a0_0 a0_1 a0_2 a0_3 a0_4 a0_5 a0_6 a0_7 a0_8 a0_9 a0_10 a0_11 a0_12 a0_13 a0_14 a0_15 a0_16 = 0
  case neg =>
    rw [if_neg (pln_bad _ _ _ _ _ _ _ _ _ _ _ _ _ _ _ _ _ h), if_neg h, pln_bad_eq _ _ _ _ _ _ _ _ _ _ _ _ _ _ _ _ _ h]
  rw [if_pos (pln_ok _ _ _ _ _ _ _ _ _ _ _ _ _ _ _ _ _ h), if_pos h]
  rcases Bool.eq_false_or_eq_true (!a0_1) with t0 | t0
  · have hu : pln a0_0 a0_1 a0_2 a0_3 a0_4 a0_5 a0_6 a0_7 a0_8 a0_9 a0_10 a0_11 a0_12 a0_13 a0_14 a0_15 a0_16 = (1, 13, 0, 0, 0, 0) := by
      rw [pln_eq _ _ _ _ _ _ _ _ _ _ _ _ _ _ _ _ _ h, rule, if_pos t0]
    have ho : out a0_0 a0_1 a0_2 a0_3 a0_4 a0_5 a0_6 a0_7 a0_8 a0_9 a0_10 a0_11 a0_12 a0_13 a0_14 a0_15 a0_16 = (a0_0, a0_1, a0_2, a0_3, a0_4, a0_5, a0_6, a0_7, a0_8, a0_9, a0_10, a0_11, a0_12, a0_13, a0_14, a0_15, a0_16, true, 0) := by
      rw [out, if_pos t0]
    rw [hu, ho]
    simp [estoversref26_After.step]
  rcases Bool.eq_false_or_eq_true ((a0_0 && (a0_2 == 1))) with t1 | t1
  · have hu : pln a0_0 a0_1 a0_2 a0_3 a0_4 a0_5 a0_6 a0_7 a0_8 a0_9 a0_10 a0_11 a0_12 a0_13 a0_14 a0_15 a0_16 = (1, 12, 0, 0, 0, 0) := by
      rw [pln_eq _ _ _ _ _ _ _ _ _ _ _ _ _ _ _ _ _ h, rule, if_neg (Bool.eq_false_iff.mp t0), if_pos t1]
    have ho : out a0_0 a0_1 a0_2 a0_3 a0_4 a0_5 a0_6 a0_7 a0_8 a0_9 a0_10 a0_11 a0_12 a0_13 a0_14 a0_15 a0_16 = (a0_0, a0_1, a0_2, a0_3, a0_4, a0_5, a0_6, a0_7, a0_8, a0_9, a0_10, a0_11, a0_12, a0_13, a0_14, a0_15, a0_16, true, 0) := by
      rw [out, if_neg (Bool.eq_false_iff.mp t0), if_pos t1]
    rw [hu, ho]
    simp [estoversref26_After.step]
  rcases Bool.eq_false_or_eq_true ((a0_5 && !(own a0_7 a0_10))) with t2 | t2
  · have hu : pln a0_0 a0_1 a0_2 a0_3 a0_4 a0_5 a0_6 a0_7 a0_8 a0_9 a0_10 a0_11 a0_12 a0_13 a0_14 a0_15 a0_16 = (1, 14, 0, 0, 0, 0) := by
      rw [pln_eq _ _ _ _ _ _ _ _ _ _ _ _ _ _ _ _ _ h, rule, if_neg (Bool.eq_false_iff.mp t0), if_neg (Bool.eq_false_iff.mp t1), if_pos t2]
    have ho : out a0_0 a0_1 a0_2 a0_3 a0_4 a0_5 a0_6 a0_7 a0_8 a0_9 a0_10 a0_11 a0_12 a0_13 a0_14 a0_15 a0_16 = (a0_0, a0_1, a0_2, a0_3, a0_4, a0_5, a0_6, a0_7, a0_8, a0_9, a0_10, a0_11, a0_12, a0_13, a0_14, a0_15, a0_16, true, 0) := by
      rw [out, if_neg (Bool.eq_false_iff.mp t0), if_neg (Bool.eq_false_iff.mp t1), if_pos t2]
    rw [hu, ho]
    simp [estoversref26_After.step]
  rcases Bool.eq_false_or_eq_true (((a0_7 == 1) && (!a0_0 || a0_8))) with t3 | t3
  · have hu : pln a0_0 a0_1 a0_2 a0_3 a0_4 a0_5 a0_6 a0_7 a0_8 a0_9 a0_10 a0_11 a0_12 a0_13 a0_14 a0_15 a0_16 = (0, 0, 0, 0, 0, 0) := by
      rw [pln_eq _ _ _ _ _ _ _ _ _ _ _ _ _ _ _ _ _ h, rule, if_neg (Bool.eq_false_iff.mp t0), if_neg (Bool.eq_false_iff.mp t1), if_neg (Bool.eq_false_iff.mp t2), if_pos t3]
    have ho : out a0_0 a0_1 a0_2 a0_3 a0_4 a0_5 a0_6 a0_7 a0_8 a0_9 a0_10 a0_11 a0_12 a0_13 a0_14 a0_15 a0_16 = (a0_0, a0_1, a0_2, a0_3, a0_4, a0_5, a0_6, a0_7, a0_8, a0_9, a0_10, a0_11, a0_12, a0_13, a0_14, a0_15, a0_16, true, 0) := by
      rw [out, if_neg (Bool.eq_false_iff.mp t0), if_neg (Bool.eq_false_iff.mp t1), if_neg (Bool.eq_false_iff.mp t2), if_pos t3]
    rw [hu, ho]
    simp [estoversref26_After.step]
  rcases Bool.eq_false_or_eq_true ((a0_6 && !(own a0_7 a0_10))) with t4 | t4
  · have hu : pln a0_0 a0_1 a0_2 a0_3 a0_4 a0_5 a0_6 a0_7 a0_8 a0_9 a0_10 a0_11 a0_12 a0_13 a0_14 a0_15 a0_16 = (2, 0, 4, 0, 0, 0) := by
      rw [pln_eq _ _ _ _ _ _ _ _ _ _ _ _ _ _ _ _ _ h, rule, if_neg (Bool.eq_false_iff.mp t0), if_neg (Bool.eq_false_iff.mp t1), if_neg (Bool.eq_false_iff.mp t2), if_neg (Bool.eq_false_iff.mp t3), if_pos t4]
    have ho : out a0_0 a0_1 a0_2 a0_3 a0_4 a0_5 a0_6 a0_7 a0_8 a0_9 a0_10 a0_11 a0_12 a0_13 a0_14 a0_15 a0_16 = (a0_0, a0_1, a0_2, a0_3, a0_4, a0_5, false, a0_7, a0_8, a0_9, a0_10, a0_11, a0_12, a0_13, a0_14, a0_15, a0_16, false, 0) := by
      rw [out, if_neg (Bool.eq_false_iff.mp t0), if_neg (Bool.eq_false_iff.mp t1), if_neg (Bool.eq_false_iff.mp t2), if_neg (Bool.eq_false_iff.mp t3), if_pos t4]
    rw [hu, ho]
    simp [estoversref26_After.step, estoversref26_waited.f]
  rcases Bool.eq_false_or_eq_true (a0_9) with t5 | t5
  · have hu : pln a0_0 a0_1 a0_2 a0_3 a0_4 a0_5 a0_6 a0_7 a0_8 a0_9 a0_10 a0_11 a0_12 a0_13 a0_14 a0_15 a0_16 = (2, 0, 3, 0, 0, 0) := by
      rw [pln_eq _ _ _ _ _ _ _ _ _ _ _ _ _ _ _ _ _ h, rule, if_neg (Bool.eq_false_iff.mp t0), if_neg (Bool.eq_false_iff.mp t1), if_neg (Bool.eq_false_iff.mp t2), if_neg (Bool.eq_false_iff.mp t3), if_neg (Bool.eq_false_iff.mp t4), if_pos t5]
    have ho : out a0_0 a0_1 a0_2 a0_3 a0_4 a0_5 a0_6 a0_7 a0_8 a0_9 a0_10 a0_11 a0_12 a0_13 a0_14 a0_15 a0_16 = (if a0_7 = 3 then (a0_0, a0_1, a0_2, a0_3, a0_4, a0_5, a0_6, 1, a0_8, false, a0_10, a0_11, a0_12, a0_13, a0_14, a0_15, a0_16, false, 0) else (a0_0, a0_1, a0_2, a0_3, a0_4, a0_5, a0_6, a0_7, a0_8, false, a0_10, a0_11, a0_12, a0_13, a0_14, a0_15, a0_16, false, 0)) := by
      rw [out, if_neg (Bool.eq_false_iff.mp t0), if_neg (Bool.eq_false_iff.mp t1), if_neg (Bool.eq_false_iff.mp t2), if_neg (Bool.eq_false_iff.mp t3), if_neg (Bool.eq_false_iff.mp t4), if_pos t5]
    rw [hu, ho]
    by_cases h3 : a0_7 = 3
    · simp [estoversref26_After.step, estoversref26_waited.f, h3]
    · simp [estoversref26_After.step, estoversref26_waited.f, h3]
  rcases Bool.eq_false_or_eq_true (((a0_7 == 1) && a0_10 && a0_11)) with t6 | t6
  · have hu : pln a0_0 a0_1 a0_2 a0_3 a0_4 a0_5 a0_6 a0_7 a0_8 a0_9 a0_10 a0_11 a0_12 a0_13 a0_14 a0_15 a0_16 = (8, 0, 0, 0, 0, 0) := by
      rw [pln_eq _ _ _ _ _ _ _ _ _ _ _ _ _ _ _ _ _ h, rule, if_neg (Bool.eq_false_iff.mp t0), if_neg (Bool.eq_false_iff.mp t1), if_neg (Bool.eq_false_iff.mp t2), if_neg (Bool.eq_false_iff.mp t3), if_neg (Bool.eq_false_iff.mp t4), if_neg (Bool.eq_false_iff.mp t5), if_pos t6]
    have ho : out a0_0 a0_1 a0_2 a0_3 a0_4 a0_5 a0_6 a0_7 a0_8 a0_9 a0_10 a0_11 a0_12 a0_13 a0_14 a0_15 a0_16 = (a0_0, a0_1, a0_2, a0_3, a0_4, a0_5, a0_6, a0_7, true, a0_9, a0_10, a0_11, a0_12, a0_13, a0_14, a0_15, a0_16, false, 0) := by
      rw [out, if_neg (Bool.eq_false_iff.mp t0), if_neg (Bool.eq_false_iff.mp t1), if_neg (Bool.eq_false_iff.mp t2), if_neg (Bool.eq_false_iff.mp t3), if_neg (Bool.eq_false_iff.mp t4), if_neg (Bool.eq_false_iff.mp t5), if_pos t6]
    rw [hu, ho]
    simp [estoversref26_After.step, estoversref26_waited.f]
  rcases Bool.eq_false_or_eq_true (((a0_7 == 1) && (a0_10 || !a0_3))) with t7 | t7
  · have hu : pln a0_0 a0_1 a0_2 a0_3 a0_4 a0_5 a0_6 a0_7 a0_8 a0_9 a0_10 a0_11 a0_12 a0_13 a0_14 a0_15 a0_16 = (9, 0, 0, 0, 1, 0) := by
      rw [pln_eq _ _ _ _ _ _ _ _ _ _ _ _ _ _ _ _ _ h, rule, if_neg (Bool.eq_false_iff.mp t0), if_neg (Bool.eq_false_iff.mp t1), if_neg (Bool.eq_false_iff.mp t2), if_neg (Bool.eq_false_iff.mp t3), if_neg (Bool.eq_false_iff.mp t4), if_neg (Bool.eq_false_iff.mp t5), if_neg (Bool.eq_false_iff.mp t6), if_pos t7]
    have ho : out a0_0 a0_1 a0_2 a0_3 a0_4 a0_5 a0_6 a0_7 a0_8 a0_9 a0_10 a0_11 a0_12 a0_13 a0_14 a0_15 a0_16 = (a0_0, a0_1, a0_2, a0_3, a0_4, a0_5, a0_6, a0_7, true, a0_9, true, true, a0_12, a0_13, a0_14, a0_15, a0_16, false, 0) := by
      rw [out, if_neg (Bool.eq_false_iff.mp t0), if_neg (Bool.eq_false_iff.mp t1), if_neg (Bool.eq_false_iff.mp t2), if_neg (Bool.eq_false_iff.mp t3), if_neg (Bool.eq_false_iff.mp t4), if_neg (Bool.eq_false_iff.mp t5), if_neg (Bool.eq_false_iff.mp t6), if_pos t7]
    rw [hu, ho]
    simp [estoversref26_After.step, estoversref26_waited.f]
  rcases Bool.eq_false_or_eq_true (((a0_7 == 1) && !a0_14 && a0_15)) with t8 | t8
  · have hu : pln a0_0 a0_1 a0_2 a0_3 a0_4 a0_5 a0_6 a0_7 a0_8 a0_9 a0_10 a0_11 a0_12 a0_13 a0_14 a0_15 a0_16 = (2, 0, 5, 0, 0, 0) := by
      rw [pln_eq _ _ _ _ _ _ _ _ _ _ _ _ _ _ _ _ _ h, rule, if_neg (Bool.eq_false_iff.mp t0), if_neg (Bool.eq_false_iff.mp t1), if_neg (Bool.eq_false_iff.mp t2), if_neg (Bool.eq_false_iff.mp t3), if_neg (Bool.eq_false_iff.mp t4), if_neg (Bool.eq_false_iff.mp t5), if_neg (Bool.eq_false_iff.mp t6), if_neg (Bool.eq_false_iff.mp t7), if_pos t8]
    have ho : out a0_0 a0_1 a0_2 a0_3 a0_4 a0_5 a0_6 a0_7 a0_8 a0_9 a0_10 a0_11 a0_12 a0_13 a0_14 a0_15 a0_16 = (a0_0, a0_1, a0_2, a0_3, a0_4, a0_5, a0_6, a0_7, a0_8, a0_9, a0_10, a0_11, a0_12, a0_13, a0_14, false, a0_16, false, 0) := by
      rw [out, if_neg (Bool.eq_false_iff.mp t0), if_neg (Bool.eq_false_iff.mp t1), if_neg (Bool.eq_false_iff.mp t2), if_neg (Bool.eq_false_iff.mp t3), if_neg (Bool.eq_false_iff.mp t4), if_neg (Bool.eq_false_iff.mp t5), if_neg (Bool.eq_false_iff.mp t6), if_neg (Bool.eq_false_iff.mp t7), if_pos t8]
    rw [hu, ho]
    simp [estoversref26_After.step, estoversref26_waited.f]
  rcases Bool.eq_false_or_eq_true ((a0_7 == 1)) with t9 | t9
  · have hu : pln a0_0 a0_1 a0_2 a0_3 a0_4 a0_5 a0_6 a0_7 a0_8 a0_9 a0_10 a0_11 a0_12 a0_13 a0_14 a0_15 a0_16 = (7, 0, 0, 0, 0, 0) := by
      rw [pln_eq _ _ _ _ _ _ _ _ _ _ _ _ _ _ _ _ _ h, rule, if_neg (Bool.eq_false_iff.mp t0), if_neg (Bool.eq_false_iff.mp t1), if_neg (Bool.eq_false_iff.mp t2), if_neg (Bool.eq_false_iff.mp t3), if_neg (Bool.eq_false_iff.mp t4), if_neg (Bool.eq_false_iff.mp t5), if_neg (Bool.eq_false_iff.mp t6), if_neg (Bool.eq_false_iff.mp t7), if_neg (Bool.eq_false_iff.mp t8), if_pos t9]
    have ho : out a0_0 a0_1 a0_2 a0_3 a0_4 a0_5 a0_6 a0_7 a0_8 a0_9 a0_10 a0_11 a0_12 a0_13 a0_14 a0_15 a0_16 = (a0_0, a0_1, a0_2, a0_3, a0_4, a0_5, a0_6, a0_7, true, a0_9, a0_10, a0_11, a0_12, a0_13, true, a0_15, a0_16, false, 0) := by
      rw [out, if_neg (Bool.eq_false_iff.mp t0), if_neg (Bool.eq_false_iff.mp t1), if_neg (Bool.eq_false_iff.mp t2), if_neg (Bool.eq_false_iff.mp t3), if_neg (Bool.eq_false_iff.mp t4), if_neg (Bool.eq_false_iff.mp t5), if_neg (Bool.eq_false_iff.mp t6), if_neg (Bool.eq_false_iff.mp t7), if_neg (Bool.eq_false_iff.mp t8), if_pos t9]
    rw [hu, ho]
    simp [estoversref26_After.step, estoversref26_waited.f]
  rcases Bool.eq_false_or_eq_true (((a0_7 == 2) && a0_12)) with t10 | t10
  · have hu : pln a0_0 a0_1 a0_2 a0_3 a0_4 a0_5 a0_6 a0_7 a0_8 a0_9 a0_10 a0_11 a0_12 a0_13 a0_14 a0_15 a0_16 = (10, 0, 0, 0, 0, 0) := by
      rw [pln_eq _ _ _ _ _ _ _ _ _ _ _ _ _ _ _ _ _ h, rule, if_neg (Bool.eq_false_iff.mp t0), if_neg (Bool.eq_false_iff.mp t1), if_neg (Bool.eq_false_iff.mp t2), if_neg (Bool.eq_false_iff.mp t3), if_neg (Bool.eq_false_iff.mp t4), if_neg (Bool.eq_false_iff.mp t5), if_neg (Bool.eq_false_iff.mp t6), if_neg (Bool.eq_false_iff.mp t7), if_neg (Bool.eq_false_iff.mp t8), if_neg (Bool.eq_false_iff.mp t9), if_pos t10]
    have ho : out a0_0 a0_1 a0_2 a0_3 a0_4 a0_5 a0_6 a0_7 a0_8 a0_9 a0_10 a0_11 a0_12 a0_13 a0_14 a0_15 a0_16 = (a0_0, a0_1, a0_2, a0_3, a0_4, a0_5, a0_6, 1, (a0_11 && (a0_2 == 3)), a0_9, a0_10, a0_11, false, a0_13, a0_14, a0_15, a0_16, false, 0) := by
      rw [out, if_neg (Bool.eq_false_iff.mp t0), if_neg (Bool.eq_false_iff.mp t1), if_neg (Bool.eq_false_iff.mp t2), if_neg (Bool.eq_false_iff.mp t3), if_neg (Bool.eq_false_iff.mp t4), if_neg (Bool.eq_false_iff.mp t5), if_neg (Bool.eq_false_iff.mp t6), if_neg (Bool.eq_false_iff.mp t7), if_neg (Bool.eq_false_iff.mp t8), if_neg (Bool.eq_false_iff.mp t9), if_pos t10]
    rw [hu, ho]
    simp [estoversref26_After.step, estoversref26_waited.f]
  rcases Bool.eq_false_or_eq_true ((a0_7 == 2)) with t11 | t11
  · have hu : pln a0_0 a0_1 a0_2 a0_3 a0_4 a0_5 a0_6 a0_7 a0_8 a0_9 a0_10 a0_11 a0_12 a0_13 a0_14 a0_15 a0_16 = (11, 0, 0, 0, 1, 0) := by
      rw [pln_eq _ _ _ _ _ _ _ _ _ _ _ _ _ _ _ _ _ h, rule, if_neg (Bool.eq_false_iff.mp t0), if_neg (Bool.eq_false_iff.mp t1), if_neg (Bool.eq_false_iff.mp t2), if_neg (Bool.eq_false_iff.mp t3), if_neg (Bool.eq_false_iff.mp t4), if_neg (Bool.eq_false_iff.mp t5), if_neg (Bool.eq_false_iff.mp t6), if_neg (Bool.eq_false_iff.mp t7), if_neg (Bool.eq_false_iff.mp t8), if_neg (Bool.eq_false_iff.mp t9), if_neg (Bool.eq_false_iff.mp t10), if_pos t11]
    have ho : out a0_0 a0_1 a0_2 a0_3 a0_4 a0_5 a0_6 a0_7 a0_8 a0_9 a0_10 a0_11 a0_12 a0_13 a0_14 a0_15 a0_16 = (a0_0, a0_1, a0_2, a0_3, a0_4, a0_5, a0_6, a0_7, a0_8, a0_9, a0_10, a0_11, true, a0_13, a0_14, a0_15, a0_16, false, 0) := by
      rw [out, if_neg (Bool.eq_false_iff.mp t0), if_neg (Bool.eq_false_iff.mp t1), if_neg (Bool.eq_false_iff.mp t2), if_neg (Bool.eq_false_iff.mp t3), if_neg (Bool.eq_false_iff.mp t4), if_neg (Bool.eq_false_iff.mp t5), if_neg (Bool.eq_false_iff.mp t6), if_neg (Bool.eq_false_iff.mp t7), if_neg (Bool.eq_false_iff.mp t8), if_neg (Bool.eq_false_iff.mp t9), if_neg (Bool.eq_false_iff.mp t10), if_pos t11]
    rw [hu, ho]
    simp [estoversref26_After.step, estoversref26_waited.f]
  rcases Bool.eq_false_or_eq_true (!a0_4) with t12 | t12
  · have hu : pln a0_0 a0_1 a0_2 a0_3 a0_4 a0_5 a0_6 a0_7 a0_8 a0_9 a0_10 a0_11 a0_12 a0_13 a0_14 a0_15 a0_16 = (3, 0, 0, a0_16, 1, 0) := by
      rw [pln_eq _ _ _ _ _ _ _ _ _ _ _ _ _ _ _ _ _ h, rule, if_neg (Bool.eq_false_iff.mp t0), if_neg (Bool.eq_false_iff.mp t1), if_neg (Bool.eq_false_iff.mp t2), if_neg (Bool.eq_false_iff.mp t3), if_neg (Bool.eq_false_iff.mp t4), if_neg (Bool.eq_false_iff.mp t5), if_neg (Bool.eq_false_iff.mp t6), if_neg (Bool.eq_false_iff.mp t7), if_neg (Bool.eq_false_iff.mp t8), if_neg (Bool.eq_false_iff.mp t9), if_neg (Bool.eq_false_iff.mp t10), if_neg (Bool.eq_false_iff.mp t11), if_pos t12]
    have ho : out a0_0 a0_1 a0_2 a0_3 a0_4 a0_5 a0_6 a0_7 a0_8 a0_9 a0_10 a0_11 a0_12 a0_13 a0_14 a0_15 a0_16 = (a0_0, a0_1, a0_2, a0_3, a0_4, a0_5, a0_6, 1, (a0_2 == 3), a0_9, true, true, a0_12, a0_13, a0_14, a0_15, 0, false, 0) := by
      rw [out, if_neg (Bool.eq_false_iff.mp t0), if_neg (Bool.eq_false_iff.mp t1), if_neg (Bool.eq_false_iff.mp t2), if_neg (Bool.eq_false_iff.mp t3), if_neg (Bool.eq_false_iff.mp t4), if_neg (Bool.eq_false_iff.mp t5), if_neg (Bool.eq_false_iff.mp t6), if_neg (Bool.eq_false_iff.mp t7), if_neg (Bool.eq_false_iff.mp t8), if_neg (Bool.eq_false_iff.mp t9), if_neg (Bool.eq_false_iff.mp t10), if_neg (Bool.eq_false_iff.mp t11), if_pos t12]
    rw [hu, ho]
    simp [estoversref26_After.step, estoversref26_waited.f]
  rcases Bool.eq_false_or_eq_true (a0_12) with t13 | t13
  · have hu : pln a0_0 a0_1 a0_2 a0_3 a0_4 a0_5 a0_6 a0_7 a0_8 a0_9 a0_10 a0_11 a0_12 a0_13 a0_14 a0_15 a0_16 = (6, 0, 0, a0_16, 0, 0) := by
      rw [pln_eq _ _ _ _ _ _ _ _ _ _ _ _ _ _ _ _ _ h, rule, if_neg (Bool.eq_false_iff.mp t0), if_neg (Bool.eq_false_iff.mp t1), if_neg (Bool.eq_false_iff.mp t2), if_neg (Bool.eq_false_iff.mp t3), if_neg (Bool.eq_false_iff.mp t4), if_neg (Bool.eq_false_iff.mp t5), if_neg (Bool.eq_false_iff.mp t6), if_neg (Bool.eq_false_iff.mp t7), if_neg (Bool.eq_false_iff.mp t8), if_neg (Bool.eq_false_iff.mp t9), if_neg (Bool.eq_false_iff.mp t10), if_neg (Bool.eq_false_iff.mp t11), if_neg (Bool.eq_false_iff.mp t12), if_pos t13]
    have ho : out a0_0 a0_1 a0_2 a0_3 a0_4 a0_5 a0_6 a0_7 a0_8 a0_9 a0_10 a0_11 a0_12 a0_13 a0_14 a0_15 a0_16 = (a0_0, a0_1, a0_2, a0_3, a0_4, a0_5, a0_6, 1, a0_8, a0_9, a0_10, a0_11, false, a0_13, a0_14, a0_15, 0, false, 0) := by
      rw [out, if_neg (Bool.eq_false_iff.mp t0), if_neg (Bool.eq_false_iff.mp t1), if_neg (Bool.eq_false_iff.mp t2), if_neg (Bool.eq_false_iff.mp t3), if_neg (Bool.eq_false_iff.mp t4), if_neg (Bool.eq_false_iff.mp t5), if_neg (Bool.eq_false_iff.mp t6), if_neg (Bool.eq_false_iff.mp t7), if_neg (Bool.eq_false_iff.mp t8), if_neg (Bool.eq_false_iff.mp t9), if_neg (Bool.eq_false_iff.mp t10), if_neg (Bool.eq_false_iff.mp t11), if_neg (Bool.eq_false_iff.mp t12), if_pos t13]
    rw [hu, ho]
    simp [estoversref26_After.step, estoversref26_waited.f]
  rcases Bool.eq_false_or_eq_true (!a0_13) with t14 | t14
  · have hu : pln a0_0 a0_1 a0_2 a0_3 a0_4 a0_5 a0_6 a0_7 a0_8 a0_9 a0_10 a0_11 a0_12 a0_13 a0_14 a0_15 a0_16 = (4, 0, 0, a0_16, 1, 0) := by
      rw [pln_eq _ _ _ _ _ _ _ _ _ _ _ _ _ _ _ _ _ h, rule, if_neg (Bool.eq_false_iff.mp t0), if_neg (Bool.eq_false_iff.mp t1), if_neg (Bool.eq_false_iff.mp t2), if_neg (Bool.eq_false_iff.mp t3), if_neg (Bool.eq_false_iff.mp t4), if_neg (Bool.eq_false_iff.mp t5), if_neg (Bool.eq_false_iff.mp t6), if_neg (Bool.eq_false_iff.mp t7), if_neg (Bool.eq_false_iff.mp t8), if_neg (Bool.eq_false_iff.mp t9), if_neg (Bool.eq_false_iff.mp t10), if_neg (Bool.eq_false_iff.mp t11), if_neg (Bool.eq_false_iff.mp t12), if_neg (Bool.eq_false_iff.mp t13), if_pos t14]
    have ho : out a0_0 a0_1 a0_2 a0_3 a0_4 a0_5 a0_6 a0_7 a0_8 a0_9 a0_10 a0_11 a0_12 a0_13 a0_14 a0_15 a0_16 = (a0_0, a0_1, a0_2, a0_3, a0_4, a0_5, a0_6, a0_7, a0_8, a0_9, a0_10, a0_11, true, a0_13, a0_14, a0_15, a0_16, false, 0) := by
      rw [out, if_neg (Bool.eq_false_iff.mp t0), if_neg (Bool.eq_false_iff.mp t1), if_neg (Bool.eq_false_iff.mp t2), if_neg (Bool.eq_false_iff.mp t3), if_neg (Bool.eq_false_iff.mp t4), if_neg (Bool.eq_false_iff.mp t5), if_neg (Bool.eq_false_iff.mp t6), if_neg (Bool.eq_false_iff.mp t7), if_neg (Bool.eq_false_iff.mp t8), if_neg (Bool.eq_false_iff.mp t9), if_neg (Bool.eq_false_iff.mp t10), if_neg (Bool.eq_false_iff.mp t11), if_neg (Bool.eq_false_iff.mp t12), if_neg (Bool.eq_false_iff.mp t13), if_pos t14]
    rw [hu, ho]
    simp [estoversref26_After.step, estoversref26_waited.f]
  · have hu : pln a0_0 a0_1 a0_2 a0_3 a0_4 a0_5 a0_6 a0_7 a0_8 a0_9 a0_10 a0_11 a0_12 a0_13 a0_14 a0_15 a0_16 = (5, 0, 0, 0, 1, 0) := by
      rw [pln_eq _ _ _ _ _ _ _ _ _ _ _ _ _ _ _ _ _ h, rule, if_neg (Bool.eq_false_iff.mp t0), if_neg (Bool.eq_false_iff.mp t1), if_neg (Bool.eq_false_iff.mp t2), if_neg (Bool.eq_false_iff.mp t3), if_neg (Bool.eq_false_iff.mp t4), if_neg (Bool.eq_false_iff.mp t5), if_neg (Bool.eq_false_iff.mp t6), if_neg (Bool.eq_false_iff.mp t7), if_neg (Bool.eq_false_iff.mp t8), if_neg (Bool.eq_false_iff.mp t9), if_neg (Bool.eq_false_iff.mp t10), if_neg (Bool.eq_false_iff.mp t11), if_neg (Bool.eq_false_iff.mp t12), if_neg (Bool.eq_false_iff.mp t13), if_neg (Bool.eq_false_iff.mp t14)]
    have ho : out a0_0 a0_1 a0_2 a0_3 a0_4 a0_5 a0_6 a0_7 a0_8 a0_9 a0_10 a0_11 a0_12 a0_13 a0_14 a0_15 a0_16 = (a0_0, a0_1, a0_2, a0_3, a0_4, a0_5, a0_6, a0_7, a0_8, a0_9, a0_10, a0_11, true, a0_13, a0_14, a0_15, a0_16, false, 0) := by
      rw [out, if_neg (Bool.eq_false_iff.mp t0), if_neg (Bool.eq_false_iff.mp t1), if_neg (Bool.eq_false_iff.mp t2), if_neg (Bool.eq_false_iff.mp t3), if_neg (Bool.eq_false_iff.mp t4), if_neg (Bool.eq_false_iff.mp t5), if_neg (Bool.eq_false_iff.mp t6), if_neg (Bool.eq_false_iff.mp t7), if_neg (Bool.eq_false_iff.mp t8), if_neg (Bool.eq_false_iff.mp t9), if_neg (Bool.eq_false_iff.mp t10), if_neg (Bool.eq_false_iff.mp t11), if_neg (Bool.eq_false_iff.mp t12), if_neg (Bool.eq_false_iff.mp t13), if_neg (Bool.eq_false_iff.mp t14)]
    rw [hu, ho]
    simp [estoversref26_After.step, estoversref26_waited.f]
end Go.Proofs.Ytfobedaepflidaa.F

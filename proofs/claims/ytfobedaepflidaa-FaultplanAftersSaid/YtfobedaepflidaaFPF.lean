/- Of the faultplan laws: the reference's Plan computes the same. -/
import Derived.Test.YtfobedaepflidaaFPB
import Derived.Test.YtfobedaepflidaaFPE
import Derived.Test.YtfobedaepflidaaF19
set_option linter.unusedSimpArgs false
set_option linter.unusedVariables false
namespace Go.Proofs.Ytfobedaepflidaa.F
open Go.RowKit Go.Proofs.YtfobedaepflidaaW.PrintWords Go.Proofs.YtfobedaepflidaaW.PrintLast
theorem rown_ev (a0_0 : Bool) (a0_1 : Bool) (a0_2 : Int) (a0_3 : Bool) (a0_4 : Bool) (a0_5 : Bool) (a0_6 : Bool) (a0_7 : Int) (a0_8 : Bool) (a0_9 : Bool) (a0_10 : Bool) (a0_11 : Bool) (a0_12 : Bool) (a0_13 : Bool) (a0_14 : Bool) (a0_15 : Bool) (a0_16 : Int) : estoversref26_OwnCopy.f a0_0 a0_1 a0_2 a0_3 a0_4 a0_5 a0_6 a0_7 a0_8 a0_9 a0_10 a0_11 a0_12 a0_13 a0_14 a0_15 a0_16 = some (own a0_7 a0_10) := own_ev a0_0 a0_1 a0_2 a0_3 a0_4 a0_5 a0_6 a0_7 a0_8 a0_9 a0_10 a0_11 a0_12 a0_13 a0_14 a0_15 a0_16
theorem rwrite_ev (k : Nat) (a0_0 : Bool) (a0_1 : Bool) (a0_2 : Int) (a0_3 : Bool) (a0_4 : Bool) (a0_5 : Bool) (a0_6 : Bool) (a0_7 : Int) (a0_8 : Bool) (a0_9 : Bool) (a0_10 : Bool) (a0_11 : Bool) (a0_12 : Bool) (a0_13 : Bool) (a0_14 : Bool) (a0_15 : Bool) (a0_16 : Int) : estoversref26_write.f (k + 3) a0_0 a0_1 a0_2 a0_3 a0_4 a0_5 a0_6 a0_7 a0_8 a0_9 a0_10 a0_11 a0_12 a0_13 a0_14 a0_15 a0_16 = some (if (a0_10 && a0_11) = true then (8, 0, 0, 0, 0, 0) else (if (a0_10 || !a0_3) = true then (9, 0, 0, 0, 1, 0) else (if (!a0_14 && a0_15) = true then (2, 0, 5, 0, 0, 0) else (7, 0, 0, 0, 0, 0)))) := by
  cases a0_10 <;> cases a0_11 <;> cases a0_3 <;> cases a0_14 <;> cases a0_15 <;> rfl
theorem rplan_j3 (k : Nat) (b : Bool) (a0_0 : Bool) (a0_1 : Bool) (a0_2 : Int) (a0_3 : Bool) (a0_4 : Bool) (a0_5 : Bool) (a0_6 : Bool) (a0_7 : Int) (a0_8 : Bool) (a0_9 : Bool) (a0_10 : Bool) (a0_11 : Bool) (a0_12 : Bool) (a0_13 : Bool) (a0_14 : Bool) (a0_15 : Bool) (a0_16 : Int) : estoversref26_Plan.j3 (k + 4) b a0_0 a0_1 a0_2 a0_3 a0_4 a0_5 a0_6 a0_7 a0_8 a0_9 a0_10 a0_11 a0_12 a0_13 a0_14 a0_15 a0_16 = some (if b = true then (2, 0, 4, 0, 0, 0) else (if a0_9 = true then (2, 0, 3, 0, 0, 0) else (if a0_7 = 1 then (if (a0_10 && a0_11) = true then (8, 0, 0, 0, 0, 0) else (if (a0_10 || !a0_3) = true then (9, 0, 0, 0, 1, 0) else (if (!a0_14 && a0_15) = true then (2, 0, 5, 0, 0, 0) else (7, 0, 0, 0, 0, 0)))) else (if a0_7 = 2 then (if a0_12 = true then (10, 0, 0, 0, 0, 0) else (11, 0, 0, 0, 1, 0)) else (if a0_4 = true then (if a0_12 = true then (6, 0, 0, a0_16, 0, 0) else (if a0_13 = true then (5, 0, 0, 0, 1, 0) else (4, 0, 0, a0_16, 1, 0))) else (3, 0, 0, a0_16, 1, 0)))))) := by
  simp only [estoversref26_Plan.j3, rwrite_ev, estoversref26_wait.f, estoversref26_plan.f, Option.bind_some]
  cases b
  · cases a0_9
    · by_cases h1 : a0_7 = 1
      · simp only [if_pos h1, Bool.false_eq_true, if_false]
      · by_cases h2 : a0_7 = 2
        · simp only [if_neg h1, if_pos h2, Bool.false_eq_true, if_false]
          cases a0_12 <;> rfl
        · simp only [if_neg h1, if_neg h2, Bool.false_eq_true, if_false]
          cases a0_4 <;> cases a0_12 <;> cases a0_13 <;> rfl
    · rfl
  · rfl
theorem rplan_j2 (k : Nat) (b : Bool) (a0_0 : Bool) (a0_1 : Bool) (a0_2 : Int) (a0_3 : Bool) (a0_4 : Bool) (a0_5 : Bool) (a0_6 : Bool) (a0_7 : Int) (a0_8 : Bool) (a0_9 : Bool) (a0_10 : Bool) (a0_11 : Bool) (a0_12 : Bool) (a0_13 : Bool) (a0_14 : Bool) (a0_15 : Bool) (a0_16 : Int) : estoversref26_Plan.j2 (k + 5) b a0_0 a0_1 a0_2 a0_3 a0_4 a0_5 a0_6 a0_7 a0_8 a0_9 a0_10 a0_11 a0_12 a0_13 a0_14 a0_15 a0_16 = if b = true then some (0, 0, 0, 0, 0, 0) else estoversref26_Plan.j3 (k + 4) (a0_6 && !(own a0_7 a0_10)) a0_0 a0_1 a0_2 a0_3 a0_4 a0_5 a0_6 a0_7 a0_8 a0_9 a0_10 a0_11 a0_12 a0_13 a0_14 a0_15 a0_16 := by
  simp only [estoversref26_Plan.j2, rown_ev, estoversref26_plan.f, Option.bind_some]
  cases b
  · cases a0_6 <;> rfl
  · rfl
theorem rplan_j1 (k : Nat) (b : Bool) (a0_0 : Bool) (a0_1 : Bool) (a0_2 : Int) (a0_3 : Bool) (a0_4 : Bool) (a0_5 : Bool) (a0_6 : Bool) (a0_7 : Int) (a0_8 : Bool) (a0_9 : Bool) (a0_10 : Bool) (a0_11 : Bool) (a0_12 : Bool) (a0_13 : Bool) (a0_14 : Bool) (a0_15 : Bool) (a0_16 : Int) : estoversref26_Plan.j1 (k + 6) b a0_0 a0_1 a0_2 a0_3 a0_4 a0_5 a0_6 a0_7 a0_8 a0_9 a0_10 a0_11 a0_12 a0_13 a0_14 a0_15 a0_16 = if b = true then some (1, 14, 0, 0, 0, 0) else estoversref26_Plan.j2 (k + 5) ((a0_7 == 1) && (!a0_0 || a0_8)) a0_0 a0_1 a0_2 a0_3 a0_4 a0_5 a0_6 a0_7 a0_8 a0_9 a0_10 a0_11 a0_12 a0_13 a0_14 a0_15 a0_16 := by
  simp only [estoversref26_Plan.j1, estoversref26_refuse.f, Option.bind_some]
  cases b
  · by_cases h1 : a0_7 = 1
    · simp only [if_pos h1, show (a0_7 == 1) = true by simp [h1], Bool.true_and]
      cases a0_0 <;> rfl
    · simp only [if_neg h1, show (a0_7 == 1) = false by simp [h1], Bool.false_and]
  · rfl
theorem rplan_j0 (k : Nat) (b : Bool) (a0_0 : Bool) (a0_1 : Bool) (a0_2 : Int) (a0_3 : Bool) (a0_4 : Bool) (a0_5 : Bool) (a0_6 : Bool) (a0_7 : Int) (a0_8 : Bool) (a0_9 : Bool) (a0_10 : Bool) (a0_11 : Bool) (a0_12 : Bool) (a0_13 : Bool) (a0_14 : Bool) (a0_15 : Bool) (a0_16 : Int) : estoversref26_Plan.j0 (k + 7) b a0_0 a0_1 a0_2 a0_3 a0_4 a0_5 a0_6 a0_7 a0_8 a0_9 a0_10 a0_11 a0_12 a0_13 a0_14 a0_15 a0_16 = if b = true then some (1, 12, 0, 0, 0, 0) else estoversref26_Plan.j1 (k + 6) (a0_5 && !(own a0_7 a0_10)) a0_0 a0_1 a0_2 a0_3 a0_4 a0_5 a0_6 a0_7 a0_8 a0_9 a0_10 a0_11 a0_12 a0_13 a0_14 a0_15 a0_16 := by
  simp only [estoversref26_Plan.j0, estoversref26_refuse.f, rown_ev, Option.bind_some]
  cases b
  · cases a0_5 <;> rfl
  · rfl
theorem if_same {α : Type} {c d : Prop} [Decidable c] [Decidable d] (h : c ↔ d) {a : α} {x y : α} (e : x = y) : (if c then a else x) = (if d then a else y) := by
  subst e
  by_cases hc : c
  · rw [if_pos hc, if_pos (h.1 hc)]
  · rw [if_neg hc, if_neg (fun hd => hc (h.2 hd))]
theorem rpln_ev (k : Nat) (a0_0 : Bool) (a0_1 : Bool) (a0_2 : Int) (a0_3 : Bool) (a0_4 : Bool) (a0_5 : Bool) (a0_6 : Bool) (a0_7 : Int) (a0_8 : Bool) (a0_9 : Bool) (a0_10 : Bool) (a0_11 : Bool) (a0_12 : Bool) (a0_13 : Bool) (a0_14 : Bool) (a0_15 : Bool) (a0_16 : Int) : estoversref26_Plan.f (k + 7) a0_0 a0_1 a0_2 a0_3 a0_4 a0_5 a0_6 a0_7 a0_8 a0_9 a0_10 a0_11 a0_12 a0_13 a0_14 a0_15 a0_16 = some (pln a0_0 a0_1 a0_2 a0_3 a0_4 a0_5 a0_6 a0_7 a0_8 a0_9 a0_10 a0_11 a0_12 a0_13 a0_14 a0_15 a0_16) := by
  unfold estoversref26_Plan.f pln
  rw [rchk_ev, Option.bind_some]
  by_cases h : chk a0_0 a0_1 a0_2 a0_3 a0_4 a0_5 a0_6 a0_7 a0_8 a0_9 a0_10 a0_11 a0_12 a0_13 a0_14 a0_15 a0_16 = 0
  · rw [if_pos h, if_pos h]
    have hp := chk_prot _ _ _ _ _ _ _ _ _ _ _ _ _ _ _ _ _ h
    have he := chk_entry _ _ _ _ _ _ _ _ _ _ _ _ _ _ _ _ _ h
    have hw : a0_1 = true → (!(a0_2 == 3)) = (a0_2 == 1) := by
      intro h1
      rcases hp with h0 | rfl | rfl
      · rw [h1] at h0; cases h0
      · rfl
      · rfl
    unfold rule
    simp only [estoversref26_writes.f, estoversref26_refuse.f, Option.bind_some, rplan_j0, rplan_j1, rplan_j2, rplan_j3]
    cases a0_1
    · rfl
    · rw [hw rfl]
      simp only [if_true]
      rcases he with rfl | rfl | rfl | rfl
      all_goals
        generalize hc2 : (a0_5 && !(own _ a0_10)) = c2
        generalize hc4 : (a0_6 && !(own _ a0_10)) = c4
        generalize hq : (a0_2 == 1) = q
        cases a0_0
        · cases c2
          · generalize hc3 : (!false || a0_8) = c3
            cases c3
            · cases c4
              · cases a0_9
                · cases a0_4 <;> cases a0_12 <;> cases a0_13 <;> rfl
                · rfl
              · rfl
            · cases c4
              · cases a0_9
                · cases a0_4 <;> cases a0_12 <;> cases a0_13 <;> rfl
                · rfl
              · rfl
          · rfl
        · cases q
          · cases c2
            · generalize hc3 : (!true || a0_8) = c3
              cases c3
              · cases c4
                · cases a0_9
                  · cases a0_4 <;> cases a0_12 <;> cases a0_13 <;> rfl
                  · rfl
                · rfl
              · cases c4
                · cases a0_9
                  · cases a0_4 <;> cases a0_12 <;> cases a0_13 <;> rfl
                  · rfl
                · rfl
            · rfl
          · rfl
  · rw [if_neg h, if_neg h]
end Go.Proofs.Ytfobedaepflidaa.F

/- Of the faultplan laws: what Plan computes. -/
import Derived.Test.YtfobedaepflidaaFPA
import Derived.Test.YtfobedaepflidaaF9
set_option linter.unusedSimpArgs false
set_option linter.unusedVariables false
namespace Go.Proofs.Ytfobedaepflidaa.F
open Go.RowKit Go.Proofs.YtfobedaepflidaaW.PrintWords Go.Proofs.YtfobedaepflidaaW.PrintLast
def own (a0_7 : Int) (a0_10 : Bool) : Bool := if a0_7 = 2 then true else (if a0_7 = 1 then a0_10 else (if a0_7 = 3 then a0_10 else false))
theorem own_ev (a0_0 : Bool) (a0_1 : Bool) (a0_2 : Int) (a0_3 : Bool) (a0_4 : Bool) (a0_5 : Bool) (a0_6 : Bool) (a0_7 : Int) (a0_8 : Bool) (a0_9 : Bool) (a0_10 : Bool) (a0_11 : Bool) (a0_12 : Bool) (a0_13 : Bool) (a0_14 : Bool) (a0_15 : Bool) (a0_16 : Int) : faultplan_copied.f a0_0 a0_1 a0_2 a0_3 a0_4 a0_5 a0_6 a0_7 a0_8 a0_9 a0_10 a0_11 a0_12 a0_13 a0_14 a0_15 a0_16 = some (own a0_7 a0_10) := by
  unfold faultplan_copied.f own
  by_cases h2 : a0_7 = 2
  · rw [if_pos h2, if_pos h2]
  · rw [if_neg h2, if_neg h2]
    by_cases h1 : a0_7 = 1
    · rw [if_pos h1, if_pos h1]
    · rw [if_neg h1, if_neg h1]
      by_cases h3 : a0_7 = 3
      · rw [if_pos h3, if_pos h3]
      · rw [if_neg h3, if_neg h3]
def rule (o p s : Bool) (a0_0 : Bool) (a0_1 : Bool) (a0_2 : Int) (a0_3 : Bool) (a0_4 : Bool) (a0_5 : Bool) (a0_6 : Bool) (a0_7 : Int) (a0_8 : Bool) (a0_9 : Bool) (a0_10 : Bool) (a0_11 : Bool) (a0_12 : Bool) (a0_13 : Bool) (a0_14 : Bool) (a0_15 : Bool) (a0_16 : Int) : Int × Int × Int × Int × Int × Int := if (!a0_1) = true then (1, 13, 0, 0, 0, 0) else (if ((a0_0 && (a0_2 == 1))) = true then (1, 12, 0, 0, 0, 0) else (if ((a0_5 && !o)) = true then (1, 14, 0, 0, 0, 0) else (if ((p && (!a0_0 || a0_8))) = true then (0, 0, 0, 0, 0, 0) else (if ((a0_6 && !o)) = true then (2, 0, 4, 0, 0, 0) else (if (a0_9) = true then (2, 0, 3, 0, 0, 0) else (if ((p && a0_10 && a0_11)) = true then (8, 0, 0, 0, 0, 0) else (if ((p && (a0_10 || !a0_3))) = true then (9, 0, 0, 0, 1, 0) else (if ((p && !a0_14 && a0_15)) = true then (2, 0, 5, 0, 0, 0) else (if (p) = true then (7, 0, 0, 0, 0, 0) else (if ((s && a0_12)) = true then (10, 0, 0, 0, 0, 0) else (if (s) = true then (11, 0, 0, 0, 1, 0) else (if (!a0_4) = true then (3, 0, 0, a0_16, 1, 0) else (if (a0_12) = true then (6, 0, 0, a0_16, 0, 0) else (if (!a0_13) = true then (4, 0, 0, a0_16, 1, 0) else ((5, 0, 0, 0, 1, 0))))))))))))))))
theorem some_if {α : Type} {c : Prop} [Decidable c] {a b : α} {x : Option α} (h : x = some b) : (if c then some a else x) = some (if c then a else b) := by
  by_cases hc : c
  · rw [if_pos hc, if_pos hc]
  · rw [if_neg hc, if_neg hc, h]
theorem pick_ev (o p s : Bool) (a0_0 : Bool) (a0_1 : Bool) (a0_2 : Int) (a0_3 : Bool) (a0_4 : Bool) (a0_5 : Bool) (a0_6 : Bool) (a0_7 : Int) (a0_8 : Bool) (a0_9 : Bool) (a0_10 : Bool) (a0_11 : Bool) (a0_12 : Bool) (a0_13 : Bool) (a0_14 : Bool) (a0_15 : Bool) (a0_16 : Int) : faultplan_Plan.pick o p s a0_0 a0_1 a0_2 a0_3 a0_4 a0_5 a0_6 a0_7 a0_8 a0_9 a0_10 a0_11 a0_12 a0_13 a0_14 a0_15 a0_16 = some (rule o p s a0_0 a0_1 a0_2 a0_3 a0_4 a0_5 a0_6 a0_7 a0_8 a0_9 a0_10 a0_11 a0_12 a0_13 a0_14 a0_15 a0_16) :=
  some_if (some_if (some_if (some_if (some_if (some_if (some_if (some_if (some_if (some_if (some_if (some_if (some_if (some_if (some_if (if_pos rfl)))))))))))))))
def pln (a0_0 : Bool) (a0_1 : Bool) (a0_2 : Int) (a0_3 : Bool) (a0_4 : Bool) (a0_5 : Bool) (a0_6 : Bool) (a0_7 : Int) (a0_8 : Bool) (a0_9 : Bool) (a0_10 : Bool) (a0_11 : Bool) (a0_12 : Bool) (a0_13 : Bool) (a0_14 : Bool) (a0_15 : Bool) (a0_16 : Int) : Int × Int × Int × Int × Int × Int := if chk a0_0 a0_1 a0_2 a0_3 a0_4 a0_5 a0_6 a0_7 a0_8 a0_9 a0_10 a0_11 a0_12 a0_13 a0_14 a0_15 a0_16 = 0 then rule (own a0_7 a0_10) (a0_7 == 1) (a0_7 == 2) a0_0 a0_1 a0_2 a0_3 a0_4 a0_5 a0_6 a0_7 a0_8 a0_9 a0_10 a0_11 a0_12 a0_13 a0_14 a0_15 a0_16 else (0, 0, 0, 0, 0, chk a0_0 a0_1 a0_2 a0_3 a0_4 a0_5 a0_6 a0_7 a0_8 a0_9 a0_10 a0_11 a0_12 a0_13 a0_14 a0_15 a0_16)
theorem chk_prot (a0_0 : Bool) (a0_1 : Bool) (a0_2 : Int) (a0_3 : Bool) (a0_4 : Bool) (a0_5 : Bool) (a0_6 : Bool) (a0_7 : Int) (a0_8 : Bool) (a0_9 : Bool) (a0_10 : Bool) (a0_11 : Bool) (a0_12 : Bool) (a0_13 : Bool) (a0_14 : Bool) (a0_15 : Bool) (a0_16 : Int) (h : chk a0_0 a0_1 a0_2 a0_3 a0_4 a0_5 a0_6 a0_7 a0_8 a0_9 a0_10 a0_11 a0_12 a0_13 a0_14 a0_15 a0_16 = 0) : a0_1 = false ∨ a0_2 = 1 ∨ a0_2 = 3 := by
  unfold chk at h
  split at h
  · split at h
    · cases h
    · split at h
      · split at h
        · exact Or.inr (by assumption)
        · cases h
      · exact Or.inl (by simpa using ‹¬ a0_1 = true›)
  · cases h
theorem chk_entry (a0_0 : Bool) (a0_1 : Bool) (a0_2 : Int) (a0_3 : Bool) (a0_4 : Bool) (a0_5 : Bool) (a0_6 : Bool) (a0_7 : Int) (a0_8 : Bool) (a0_9 : Bool) (a0_10 : Bool) (a0_11 : Bool) (a0_12 : Bool) (a0_13 : Bool) (a0_14 : Bool) (a0_15 : Bool) (a0_16 : Int) (h : chk a0_0 a0_1 a0_2 a0_3 a0_4 a0_5 a0_6 a0_7 a0_8 a0_9 a0_10 a0_11 a0_12 a0_13 a0_14 a0_15 a0_16 = 0) : a0_7 = 0 ∨ a0_7 = 1 ∨ a0_7 = 2 ∨ a0_7 = 3 := by
  unfold chk at h
  split at h
  · assumption
  · cases h
theorem pln_ev (k : Nat) (a0_0 : Bool) (a0_1 : Bool) (a0_2 : Int) (a0_3 : Bool) (a0_4 : Bool) (a0_5 : Bool) (a0_6 : Bool) (a0_7 : Int) (a0_8 : Bool) (a0_9 : Bool) (a0_10 : Bool) (a0_11 : Bool) (a0_12 : Bool) (a0_13 : Bool) (a0_14 : Bool) (a0_15 : Bool) (a0_16 : Int) : faultplan_Plan.f (k + 3) a0_0 a0_1 a0_2 a0_3 a0_4 a0_5 a0_6 a0_7 a0_8 a0_9 a0_10 a0_11 a0_12 a0_13 a0_14 a0_15 a0_16 = some (pln a0_0 a0_1 a0_2 a0_3 a0_4 a0_5 a0_6 a0_7 a0_8 a0_9 a0_10 a0_11 a0_12 a0_13 a0_14 a0_15 a0_16) := by
  unfold faultplan_Plan.f pln
  rw [chk_ev, Option.bind_some]
  by_cases h : chk a0_0 a0_1 a0_2 a0_3 a0_4 a0_5 a0_6 a0_7 a0_8 a0_9 a0_10 a0_11 a0_12 a0_13 a0_14 a0_15 a0_16 = 0
  · rw [if_pos h, if_pos h, own_ev, Option.bind_some, if_pos (chk_prot _ _ _ _ _ _ _ _ _ _ _ _ _ _ _ _ _ h), pick_ev]
  · rw [if_neg h, if_neg h]
end Go.Proofs.Ytfobedaepflidaa.F

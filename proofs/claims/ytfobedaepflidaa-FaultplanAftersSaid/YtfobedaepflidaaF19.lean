-- Written by a program of this session (own_print.py) that runs the kit's printer. Lean checks it.
import Derived.Test.YtfobedaepflidaaF0
import Derived.Test.YtfobedaepflidaaF4
import Derived.Test.YtfobedaepflidaaF6
import Derived.Test.YtfobedaepflidaaF14
import Derived.Test.YtfobedaepflidaaF15
import Derived.Test.YtfobedaepflidaaF16
import Derived.Test.YtfobedaepflidaaF17
import Derived.Test.YtfobedaepflidaaF18
namespace Go.Proofs.Ytfobedaepflidaa.F
open Go.RowKit Go.Proofs.YtfobedaepflidaaW.PrintWords Go.Proofs.YtfobedaepflidaaW.PrintLast Go.Proofs.YtfobedaepflidaaW.PrintMore
attribute [local go_sem] max2_int min2_int max_two min_two max_three min_three max_four min_four   -- for this text's walks alone
set_option linter.unusedVariables false
set_option linter.unusedSimpArgs false

attribute [local go_sem ↓ high] ld23a sv23a
attribute [local go_sem high] ld23 sv23
/-! ### estoversref26_Plan: function 14 -/
mutual
def estoversref26_Plan.j0 : Nat → Bool → Bool → Bool → Int → Bool → Bool → Bool → Bool → Int → Bool → Bool → Bool → Bool → Bool → Bool → Bool → Bool → Int → Option (Int × Int × Int × Int × Int × Int)
  | 0, _, _, _, _, _, _, _, _, _, _, _, _, _, _, _, _, _, _ => none
  | k + 1, x23, x143000, x143001, x143002, x143003, x143004, x143005, x143006, x143007, x143008, x143009, x143010, x143011, x143012, x143013, x143014, x143015, x143016 => if x23 = true then ((estoversref26_refuse.f 12).bind fun bt152 => (some (bt152.1, bt152.2.1, bt152.2.2.1, bt152.2.2.2.1, bt152.2.2.2.2.1, bt152.2.2.2.2.2))) else (if x143005 = true then ((estoversref26_OwnCopy.f x143000 x143001 x143002 x143003 x143004 x143005 x143006 x143007 x143008 x143009 x143010 x143011 x143012 x143013 x143014 x143015 x143016).bind fun t158 => (estoversref26_Plan.j1 k (!t158) x143000 x143001 x143002 x143003 x143004 x143005 x143006 x143007 x143008 x143009 x143010 x143011 x143012 x143013 x143014 x143015 x143016)) else (estoversref26_Plan.j1 k false x143000 x143001 x143002 x143003 x143004 x143005 x143006 x143007 x143008 x143009 x143010 x143011 x143012 x143013 x143014 x143015 x143016))
def estoversref26_Plan.j1 : Nat → Bool → Bool → Bool → Int → Bool → Bool → Bool → Bool → Int → Bool → Bool → Bool → Bool → Bool → Bool → Bool → Bool → Int → Option (Int × Int × Int × Int × Int × Int)
  | 0, _, _, _, _, _, _, _, _, _, _, _, _, _, _, _, _, _, _ => none
  | k + 1, x33, x143000, x143001, x143002, x143003, x143004, x143005, x143006, x143007, x143008, x143009, x143010, x143011, x143012, x143013, x143014, x143015, x143016 => if x33 = true then ((estoversref26_refuse.f 14).bind fun bt159 => (some (bt159.1, bt159.2.1, bt159.2.2.1, bt159.2.2.2.1, bt159.2.2.2.2.1, bt159.2.2.2.2.2))) else (if x143007 = 1 then (if x143000 = true then (estoversref26_Plan.j2 k x143008 x143000 x143001 x143002 x143003 x143004 x143005 x143006 x143007 x143008 x143009 x143010 x143011 x143012 x143013 x143014 x143015 x143016) else (estoversref26_Plan.j2 k true x143000 x143001 x143002 x143003 x143004 x143005 x143006 x143007 x143008 x143009 x143010 x143011 x143012 x143013 x143014 x143015 x143016)) else (estoversref26_Plan.j2 k false x143000 x143001 x143002 x143003 x143004 x143005 x143006 x143007 x143008 x143009 x143010 x143011 x143012 x143013 x143014 x143015 x143016))
def estoversref26_Plan.j2 : Nat → Bool → Bool → Bool → Int → Bool → Bool → Bool → Bool → Int → Bool → Bool → Bool → Bool → Bool → Bool → Bool → Bool → Int → Option (Int × Int × Int × Int × Int × Int)
  | 0, _, _, _, _, _, _, _, _, _, _, _, _, _, _, _, _, _, _ => none
  | k + 1, x48, x143000, x143001, x143002, x143003, x143004, x143005, x143006, x143007, x143008, x143009, x143010, x143011, x143012, x143013, x143014, x143015, x143016 => if x48 = true then ((estoversref26_plan.f 0 0 0).bind fun bt165 => (some (bt165.1, bt165.2.1, bt165.2.2.1, bt165.2.2.2.1, bt165.2.2.2.2.1, bt165.2.2.2.2.2))) else (if x143006 = true then ((estoversref26_OwnCopy.f x143000 x143001 x143002 x143003 x143004 x143005 x143006 x143007 x143008 x143009 x143010 x143011 x143012 x143013 x143014 x143015 x143016).bind fun t171 => (estoversref26_Plan.j3 k (!t171) x143000 x143001 x143002 x143003 x143004 x143005 x143006 x143007 x143008 x143009 x143010 x143011 x143012 x143013 x143014 x143015 x143016)) else (estoversref26_Plan.j3 k false x143000 x143001 x143002 x143003 x143004 x143005 x143006 x143007 x143008 x143009 x143010 x143011 x143012 x143013 x143014 x143015 x143016))
def estoversref26_Plan.j3 : Nat → Bool → Bool → Bool → Int → Bool → Bool → Bool → Bool → Int → Bool → Bool → Bool → Bool → Bool → Bool → Bool → Bool → Int → Option (Int × Int × Int × Int × Int × Int)
  | 0, _, _, _, _, _, _, _, _, _, _, _, _, _, _, _, _, _, _ => none
  | k + 1, x58, x143000, x143001, x143002, x143003, x143004, x143005, x143006, x143007, x143008, x143009, x143010, x143011, x143012, x143013, x143014, x143015, x143016 => if x58 = true then ((estoversref26_wait.f 4).bind fun bt172 => (some (bt172.1, bt172.2.1, bt172.2.2.1, bt172.2.2.2.1, bt172.2.2.2.2.1, bt172.2.2.2.2.2))) else (if x143009 = true then ((estoversref26_wait.f 3).bind fun bt178 => (some (bt178.1, bt178.2.1, bt178.2.2.1, bt178.2.2.2.1, bt178.2.2.2.2.1, bt178.2.2.2.2.2))) else (if x143007 = 1 then ((estoversref26_write.f k x143000 x143001 x143002 x143003 x143004 x143005 x143006 x143007 x143008 x143009 x143010 x143011 x143012 x143013 x143014 x143015 x143016).bind fun bt184 => (some (bt184.1, bt184.2.1, bt184.2.2.1, bt184.2.2.2.1, bt184.2.2.2.2.1, bt184.2.2.2.2.2))) else (if x143007 = 2 then (if x143012 = true then ((estoversref26_plan.f 10 0 0).bind fun bt190 => (some (bt190.1, bt190.2.1, bt190.2.2.1, bt190.2.2.2.1, bt190.2.2.2.2.1, bt190.2.2.2.2.2))) else ((estoversref26_plan.f 11 0 1).bind fun bt196 => (some (bt196.1, bt196.2.1, bt196.2.2.1, bt196.2.2.2.1, bt196.2.2.2.2.1, bt196.2.2.2.2.2)))) else (if x143004 = true then (if x143012 = true then ((estoversref26_plan.f 6 x143016 0).bind fun bt208 => (some (bt208.1, bt208.2.1, bt208.2.2.1, bt208.2.2.2.1, bt208.2.2.2.2.1, bt208.2.2.2.2.2))) else (if x143013 = true then ((estoversref26_plan.f 5 0 1).bind fun bt214 => (some (bt214.1, bt214.2.1, bt214.2.2.1, bt214.2.2.2.1, bt214.2.2.2.2.1, bt214.2.2.2.2.2))) else ((estoversref26_plan.f 4 x143016 1).bind fun bt220 => (some (bt220.1, bt220.2.1, bt220.2.2.1, bt220.2.2.2.1, bt220.2.2.2.2.1, bt220.2.2.2.2.2))))) else ((estoversref26_plan.f 3 x143016 1).bind fun bt202 => (some (bt202.1, bt202.2.1, bt202.2.2.1, bt202.2.2.2.1, bt202.2.2.2.2.1, bt202.2.2.2.2.2)))))))
end
def estoversref26_Plan.f (k : Nat) (a0_0 : Bool) (a0_1 : Bool) (a0_2 : Int) (a0_3 : Bool) (a0_4 : Bool) (a0_5 : Bool) (a0_6 : Bool) (a0_7 : Int) (a0_8 : Bool) (a0_9 : Bool) (a0_10 : Bool) (a0_11 : Bool) (a0_12 : Bool) (a0_13 : Bool) (a0_14 : Bool) (a0_15 : Bool) (a0_16 : Int) : Option (Int × Int × Int × Int × Int × Int) := (estoversref26_Check.f k a0_0 a0_1 a0_2 a0_3 a0_4 a0_5 a0_6 a0_7 a0_8 a0_9 a0_10 a0_11 a0_12 a0_13 a0_14 a0_15 a0_16).bind fun t144 => (if t144 = 0 then (if a0_1 = true then (if a0_0 = true then ((estoversref26_writes.f a0_0 a0_1 a0_2 a0_3 a0_4 a0_5 a0_6 a0_7 a0_8 a0_9 a0_10 a0_11 a0_12 a0_13 a0_14 a0_15 a0_16).bind fun t151 => (estoversref26_Plan.j0 k (!t151) a0_0 a0_1 a0_2 a0_3 a0_4 a0_5 a0_6 a0_7 a0_8 a0_9 a0_10 a0_11 a0_12 a0_13 a0_14 a0_15 a0_16)) else (estoversref26_Plan.j0 k false a0_0 a0_1 a0_2 a0_3 a0_4 a0_5 a0_6 a0_7 a0_8 a0_9 a0_10 a0_11 a0_12 a0_13 a0_14 a0_15 a0_16)) else ((estoversref26_refuse.f 13).bind fun bt145 => (some (bt145.1, bt145.2.1, bt145.2.2.1, bt145.2.2.2.1, bt145.2.2.2.2.1, bt145.2.2.2.2.2)))) else (some (0, 0, 0, 0, 0, t144)))
theorem estoversref26_Plan.mono_l : ∀ k, (∀ y0 y1 y2 y3 y4 y5 y6 y7 y8 y9 y10 y11 y12 y13 y14 y15 y16 y17, LeO (estoversref26_Plan.j0 k y0 y1 y2 y3 y4 y5 y6 y7 y8 y9 y10 y11 y12 y13 y14 y15 y16 y17) (estoversref26_Plan.j0 (k + 1) y0 y1 y2 y3 y4 y5 y6 y7 y8 y9 y10 y11 y12 y13 y14 y15 y16 y17)) ∧ (∀ y0 y1 y2 y3 y4 y5 y6 y7 y8 y9 y10 y11 y12 y13 y14 y15 y16 y17, LeO (estoversref26_Plan.j1 k y0 y1 y2 y3 y4 y5 y6 y7 y8 y9 y10 y11 y12 y13 y14 y15 y16 y17) (estoversref26_Plan.j1 (k + 1) y0 y1 y2 y3 y4 y5 y6 y7 y8 y9 y10 y11 y12 y13 y14 y15 y16 y17)) ∧ (∀ y0 y1 y2 y3 y4 y5 y6 y7 y8 y9 y10 y11 y12 y13 y14 y15 y16 y17, LeO (estoversref26_Plan.j2 k y0 y1 y2 y3 y4 y5 y6 y7 y8 y9 y10 y11 y12 y13 y14 y15 y16 y17) (estoversref26_Plan.j2 (k + 1) y0 y1 y2 y3 y4 y5 y6 y7 y8 y9 y10 y11 y12 y13 y14 y15 y16 y17)) ∧ (∀ y0 y1 y2 y3 y4 y5 y6 y7 y8 y9 y10 y11 y12 y13 y14 y15 y16 y17, LeO (estoversref26_Plan.j3 k y0 y1 y2 y3 y4 y5 y6 y7 y8 y9 y10 y11 y12 y13 y14 y15 y16 y17) (estoversref26_Plan.j3 (k + 1) y0 y1 y2 y3 y4 y5 y6 y7 y8 y9 y10 y11 y12 y13 y14 y15 y16 y17))
  | 0 => ⟨fun _ _ _ _ _ _ _ _ _ _ _ _ _ _ _ _ _ _ r h => by simp [estoversref26_Plan.j0] at h, fun _ _ _ _ _ _ _ _ _ _ _ _ _ _ _ _ _ _ r h => by simp [estoversref26_Plan.j1] at h, fun _ _ _ _ _ _ _ _ _ _ _ _ _ _ _ _ _ _ r h => by simp [estoversref26_Plan.j2] at h, fun _ _ _ _ _ _ _ _ _ _ _ _ _ _ _ _ _ _ r h => by simp [estoversref26_Plan.j3] at h⟩
  | k + 1 => by
    obtain ⟨ih0, ih1, ih2, ih3⟩ := estoversref26_Plan.mono_l k
    refine ⟨?_, ?_, ?_, ?_⟩
    · intro y0 y1 y2 y3 y4 y5 y6 y7 y8 y9 y10 y11 y12 y13 y14 y15 y16 y17
      unfold estoversref26_Plan.j0
      repeat' first
      | (with_reducible exact ih0 _ _ _ _ _ _ _ _ _ _ _ _ _ _ _ _ _ _)
      | (with_reducible exact ih1 _ _ _ _ _ _ _ _ _ _ _ _ _ _ _ _ _ _)
      | (with_reducible exact ih2 _ _ _ _ _ _ _ _ _ _ _ _ _ _ _ _ _ _)
      | (with_reducible exact ih3 _ _ _ _ _ _ _ _ _ _ _ _ _ _ _ _ _ _)
      | (with_reducible exact estoversref26_Check.mono _ _ _ _ _ _ _ _ _ _ _ _ _ _ _ _ _ _)
      | (with_reducible exact estoversref26_write.mono _ _ _ _ _ _ _ _ _ _ _ _ _ _ _ _ _ _)
      | (with_reducible exact LeO.refl _)
      | (with_reducible exact LeO.none _)
      | (with_reducible refine LeO.ite ?_ ?_)
      | (with_reducible refine LeO.bind ?_ (fun _ => ?_))
      | exact ih0 _ _ _ _ _ _ _ _ _ _ _ _ _ _ _ _ _ _
      | exact ih1 _ _ _ _ _ _ _ _ _ _ _ _ _ _ _ _ _ _
      | exact ih2 _ _ _ _ _ _ _ _ _ _ _ _ _ _ _ _ _ _
      | exact ih3 _ _ _ _ _ _ _ _ _ _ _ _ _ _ _ _ _ _
      | exact estoversref26_Check.mono _ _ _ _ _ _ _ _ _ _ _ _ _ _ _ _ _ _
      | exact estoversref26_write.mono _ _ _ _ _ _ _ _ _ _ _ _ _ _ _ _ _ _
      | exact LeO.none _
      | refine LeO.ite ?_ ?_
      | refine LeO.bind ?_ (fun _ => ?_)
    · intro y0 y1 y2 y3 y4 y5 y6 y7 y8 y9 y10 y11 y12 y13 y14 y15 y16 y17
      unfold estoversref26_Plan.j1
      repeat' first
      | (with_reducible exact ih0 _ _ _ _ _ _ _ _ _ _ _ _ _ _ _ _ _ _)
      | (with_reducible exact ih1 _ _ _ _ _ _ _ _ _ _ _ _ _ _ _ _ _ _)
      | (with_reducible exact ih2 _ _ _ _ _ _ _ _ _ _ _ _ _ _ _ _ _ _)
      | (with_reducible exact ih3 _ _ _ _ _ _ _ _ _ _ _ _ _ _ _ _ _ _)
      | (with_reducible exact estoversref26_Check.mono _ _ _ _ _ _ _ _ _ _ _ _ _ _ _ _ _ _)
      | (with_reducible exact estoversref26_write.mono _ _ _ _ _ _ _ _ _ _ _ _ _ _ _ _ _ _)
      | (with_reducible exact LeO.refl _)
      | (with_reducible exact LeO.none _)
      | (with_reducible refine LeO.ite ?_ ?_)
      | (with_reducible refine LeO.bind ?_ (fun _ => ?_))
      | exact ih0 _ _ _ _ _ _ _ _ _ _ _ _ _ _ _ _ _ _
      | exact ih1 _ _ _ _ _ _ _ _ _ _ _ _ _ _ _ _ _ _
      | exact ih2 _ _ _ _ _ _ _ _ _ _ _ _ _ _ _ _ _ _
      | exact ih3 _ _ _ _ _ _ _ _ _ _ _ _ _ _ _ _ _ _
      | exact estoversref26_Check.mono _ _ _ _ _ _ _ _ _ _ _ _ _ _ _ _ _ _
      | exact estoversref26_write.mono _ _ _ _ _ _ _ _ _ _ _ _ _ _ _ _ _ _
      | exact LeO.none _
      | refine LeO.ite ?_ ?_
      | refine LeO.bind ?_ (fun _ => ?_)
    · intro y0 y1 y2 y3 y4 y5 y6 y7 y8 y9 y10 y11 y12 y13 y14 y15 y16 y17
      unfold estoversref26_Plan.j2
      repeat' first
      | (with_reducible exact ih0 _ _ _ _ _ _ _ _ _ _ _ _ _ _ _ _ _ _)
      | (with_reducible exact ih1 _ _ _ _ _ _ _ _ _ _ _ _ _ _ _ _ _ _)
      | (with_reducible exact ih2 _ _ _ _ _ _ _ _ _ _ _ _ _ _ _ _ _ _)
      | (with_reducible exact ih3 _ _ _ _ _ _ _ _ _ _ _ _ _ _ _ _ _ _)
      | (with_reducible exact estoversref26_Check.mono _ _ _ _ _ _ _ _ _ _ _ _ _ _ _ _ _ _)
      | (with_reducible exact estoversref26_write.mono _ _ _ _ _ _ _ _ _ _ _ _ _ _ _ _ _ _)
      | (with_reducible exact LeO.refl _)
      | (with_reducible exact LeO.none _)
      | (with_reducible refine LeO.ite ?_ ?_)
      | (with_reducible refine LeO.bind ?_ (fun _ => ?_))
      | exact ih0 _ _ _ _ _ _ _ _ _ _ _ _ _ _ _ _ _ _
      | exact ih1 _ _ _ _ _ _ _ _ _ _ _ _ _ _ _ _ _ _
      | exact ih2 _ _ _ _ _ _ _ _ _ _ _ _ _ _ _ _ _ _
      | exact ih3 _ _ _ _ _ _ _ _ _ _ _ _ _ _ _ _ _ _
      | exact estoversref26_Check.mono _ _ _ _ _ _ _ _ _ _ _ _ _ _ _ _ _ _
      | exact estoversref26_write.mono _ _ _ _ _ _ _ _ _ _ _ _ _ _ _ _ _ _
      | exact LeO.none _
      | refine LeO.ite ?_ ?_
      | refine LeO.bind ?_ (fun _ => ?_)
    · intro y0 y1 y2 y3 y4 y5 y6 y7 y8 y9 y10 y11 y12 y13 y14 y15 y16 y17
      unfold estoversref26_Plan.j3
      repeat' first
      | (with_reducible exact ih0 _ _ _ _ _ _ _ _ _ _ _ _ _ _ _ _ _ _)
      | (with_reducible exact ih1 _ _ _ _ _ _ _ _ _ _ _ _ _ _ _ _ _ _)
      | (with_reducible exact ih2 _ _ _ _ _ _ _ _ _ _ _ _ _ _ _ _ _ _)
      | (with_reducible exact ih3 _ _ _ _ _ _ _ _ _ _ _ _ _ _ _ _ _ _)
      | (with_reducible exact estoversref26_Check.mono _ _ _ _ _ _ _ _ _ _ _ _ _ _ _ _ _ _)
      | (with_reducible exact estoversref26_write.mono _ _ _ _ _ _ _ _ _ _ _ _ _ _ _ _ _ _)
      | (with_reducible exact LeO.refl _)
      | (with_reducible exact LeO.none _)
      | (with_reducible refine LeO.ite ?_ ?_)
      | (with_reducible refine LeO.bind ?_ (fun _ => ?_))
      | exact ih0 _ _ _ _ _ _ _ _ _ _ _ _ _ _ _ _ _ _
      | exact ih1 _ _ _ _ _ _ _ _ _ _ _ _ _ _ _ _ _ _
      | exact ih2 _ _ _ _ _ _ _ _ _ _ _ _ _ _ _ _ _ _
      | exact ih3 _ _ _ _ _ _ _ _ _ _ _ _ _ _ _ _ _ _
      | exact estoversref26_Check.mono _ _ _ _ _ _ _ _ _ _ _ _ _ _ _ _ _ _
      | exact estoversref26_write.mono _ _ _ _ _ _ _ _ _ _ _ _ _ _ _ _ _ _
      | exact LeO.none _
      | refine LeO.ite ?_ ?_
      | refine LeO.bind ?_ (fun _ => ?_)
theorem estoversref26_Plan.mono : ∀ a0 a1 a2 a3 a4 a5 a6 a7 a8 a9 a10 a11 a12 a13 a14 a15 a16 k, LeO (estoversref26_Plan.f k a0 a1 a2 a3 a4 a5 a6 a7 a8 a9 a10 a11 a12 a13 a14 a15 a16) (estoversref26_Plan.f (k + 1) a0 a1 a2 a3 a4 a5 a6 a7 a8 a9 a10 a11 a12 a13 a14 a15 a16) := by
  intro a0 a1 a2 a3 a4 a5 a6 a7 a8 a9 a10 a11 a12 a13 a14 a15 a16 k
  obtain ⟨ih0, ih1, ih2, ih3⟩ := estoversref26_Plan.mono_l k
  unfold estoversref26_Plan.f
  repeat' first
      | (with_reducible exact ih0 _ _ _ _ _ _ _ _ _ _ _ _ _ _ _ _ _ _)
      | (with_reducible exact ih1 _ _ _ _ _ _ _ _ _ _ _ _ _ _ _ _ _ _)
      | (with_reducible exact ih2 _ _ _ _ _ _ _ _ _ _ _ _ _ _ _ _ _ _)
      | (with_reducible exact ih3 _ _ _ _ _ _ _ _ _ _ _ _ _ _ _ _ _ _)
      | (with_reducible exact estoversref26_Check.mono _ _ _ _ _ _ _ _ _ _ _ _ _ _ _ _ _ _)
      | (with_reducible exact estoversref26_write.mono _ _ _ _ _ _ _ _ _ _ _ _ _ _ _ _ _ _)
      | (with_reducible exact LeO.refl _)
      | (with_reducible exact LeO.none _)
      | (with_reducible refine LeO.ite ?_ ?_)
      | (with_reducible refine LeO.bind ?_ (fun _ => ?_))
      | exact ih0 _ _ _ _ _ _ _ _ _ _ _ _ _ _ _ _ _ _
      | exact ih1 _ _ _ _ _ _ _ _ _ _ _ _ _ _ _ _ _ _
      | exact ih2 _ _ _ _ _ _ _ _ _ _ _ _ _ _ _ _ _ _
      | exact ih3 _ _ _ _ _ _ _ _ _ _ _ _ _ _ _ _ _ _
      | exact estoversref26_Check.mono _ _ _ _ _ _ _ _ _ _ _ _ _ _ _ _ _ _
      | exact estoversref26_write.mono _ _ _ _ _ _ _ _ _ _ _ _ _ _ _ _ _ _
      | exact LeO.none _
      | refine LeO.ite ?_ ?_
      | refine LeO.bind ?_ (fun _ => ?_)
set_option maxHeartbeats 8000000 in
set_option maxRecDepth 100000 in
theorem estoversref26_Plan.calls (k : Nat) (a0_0 : Bool) (a0_1 : Bool) (a0_2 : Int) (a0_3 : Bool) (a0_4 : Bool) (a0_5 : Bool) (a0_6 : Bool) (a0_7 : Int) (a0_8 : Bool) (a0_9 : Bool) (a0_10 : Bool) (a0_11 : Bool) (a0_12 : Bool) (a0_13 : Bool) (a0_14 : Bool) (a0_15 : Bool) (a0_16 : Int) (r1 : Int) (r2 : Int) (r3 : Int) (r4 : Int) (r5 : Int) (r6 : Int) (w : World) (h : estoversref26_Plan.f k a0_0 a0_1 a0_2 a0_3 a0_4 a0_5 a0_6 a0_7 a0_8 a0_9 a0_10 a0_11 a0_12 a0_13 a0_14 a0_15 a0_16 = some (r1, r2, r3, r4, r5, r6)) :
    Calls Try.prog 14 #[.agg #[.bool a0_0, .bool a0_1, .int .i64 a0_2, .bool a0_3, .bool a0_4, .bool a0_5, .bool a0_6, .int .i64 a0_7, .bool a0_8, .bool a0_9, .bool a0_10, .bool a0_11, .bool a0_12, .bool a0_13, .bool a0_14, .bool a0_15, .int .i64 a0_16]] w fun e w' => e = .returned (.tuple #[.agg #[.int .i64 r1, .int .i64 r2, .int .i64 r3, .int .i64 r4, .int .i64 r5], .int .i64 r6]) ∧ Below w.heap.size w w' := by
  have hu23 := Try.underlying23
  have hu28 := Try.underlying28
  have HB := Aside0.mk (Below.refl w.heap.size w)
  have H : ((estoversref26_Check.f k a0_0 a0_1 a0_2 a0_3 a0_4 a0_5 a0_6 a0_7 a0_8 a0_9 a0_10 a0_11 a0_12 a0_13 a0_14 a0_15 a0_16).bind fun t144 => (if t144 = 0 then (if a0_1 = true then (if a0_0 = true then ((estoversref26_writes.f a0_0 a0_1 a0_2 a0_3 a0_4 a0_5 a0_6 a0_7 a0_8 a0_9 a0_10 a0_11 a0_12 a0_13 a0_14 a0_15 a0_16).bind fun t151 => (estoversref26_Plan.j0 k (!t151) a0_0 a0_1 a0_2 a0_3 a0_4 a0_5 a0_6 a0_7 a0_8 a0_9 a0_10 a0_11 a0_12 a0_13 a0_14 a0_15 a0_16)) else (estoversref26_Plan.j0 k false a0_0 a0_1 a0_2 a0_3 a0_4 a0_5 a0_6 a0_7 a0_8 a0_9 a0_10 a0_11 a0_12 a0_13 a0_14 a0_15 a0_16)) else ((estoversref26_refuse.f 13).bind fun bt145 => (some (bt145.1, bt145.2.1, bt145.2.2.1, bt145.2.2.2.1, bt145.2.2.2.2.1, bt145.2.2.2.2.2)))) else (some (0, 0, 0, 0, 0, t144)))) = some (r1, r2, r3, r4, r5, r6) := h
  clear h
  replace H := Option.bind_eq_some_iff.mp H
  obtain ⟨t144, A20, H⟩ := H
  replace H : (if t144 = 0 then (if a0_1 = true then (if a0_0 = true then ((estoversref26_writes.f a0_0 a0_1 a0_2 a0_3 a0_4 a0_5 a0_6 a0_7 a0_8 a0_9 a0_10 a0_11 a0_12 a0_13 a0_14 a0_15 a0_16).bind fun t151 => (estoversref26_Plan.j0 k (!t151) a0_0 a0_1 a0_2 a0_3 a0_4 a0_5 a0_6 a0_7 a0_8 a0_9 a0_10 a0_11 a0_12 a0_13 a0_14 a0_15 a0_16)) else (estoversref26_Plan.j0 k false a0_0 a0_1 a0_2 a0_3 a0_4 a0_5 a0_6 a0_7 a0_8 a0_9 a0_10 a0_11 a0_12 a0_13 a0_14 a0_15 a0_16)) else ((estoversref26_refuse.f 13).bind fun bt145 => (some (bt145.1, bt145.2.1, bt145.2.2.1, bt145.2.2.2.1, bt145.2.2.2.2.1, bt145.2.2.2.2.2)))) else (some (0, 0, 0, 0, 0, t144))) = some (r1, r2, r3, r4, r5, r6) := H
  have A2 := Aside0.mk A20
  clear A20
  by_cases c3 : t144 = 0
  · rw [if_pos c3] at H
    have c3b0 : (t144 == 0) = true := beq_iff_eq.mpr c3
    have c3b1 : (t144 != 0) = false := bne_eq_false_iff_eq.mpr c3
    clear c3
    by_cases c4 : a0_1 = true
    · subst c4
      have H1 : (if a0_0 = true then ((estoversref26_writes.f a0_0 true a0_2 a0_3 a0_4 a0_5 a0_6 a0_7 a0_8 a0_9 a0_10 a0_11 a0_12 a0_13 a0_14 a0_15 a0_16).bind fun t151 => (estoversref26_Plan.j0 k (!t151) a0_0 true a0_2 a0_3 a0_4 a0_5 a0_6 a0_7 a0_8 a0_9 a0_10 a0_11 a0_12 a0_13 a0_14 a0_15 a0_16)) else (estoversref26_Plan.j0 k false a0_0 true a0_2 a0_3 a0_4 a0_5 a0_6 a0_7 a0_8 a0_9 a0_10 a0_11 a0_12 a0_13 a0_14 a0_15 a0_16)) = some (r1, r2, r3, r4, r5, r6) := by rw [if_pos rfl] at H; exact H
      clear H
      have H := H1
      clear H1
      have HC5 := Aside0.mk H
      clear H
      go_enter Try.func14, Try.ntmps14
      go_upto_region 6 with (first | ((with_reducible refine gate_dst (N := 1) rfl ?_); refine box_event ?hg (N := 1) ?hd (cs := #[.bool a0_0, .bool true, .int .i64 a0_2, .bool a0_3, .bool a0_4, .bool a0_5, .bool a0_6, .int .i64 a0_7, .bool a0_8, .bool a0_9, .bool a0_10, .bool a0_11, .bool a0_12, .bool a0_13, .bool a0_14, .bool a0_15, .int .i64 a0_16]) (t := 23) ?hr ?_; (case hd => rfl); (case hg => rfl); (case hr => first | (go_simp; done) | (go_simp; rfl)); intro gb142 hg w6 hbox hb; have n0_ := Aside0.mk (below_step (by repeat (first | (with_reducible first | exact HB.out | apply below_alloc | apply pw_below_drewN | apply below_drew1) | exact HB.out)) hb); have n1_ := Aside0.mk (hbox); have n2_ := Aside0.mk ((by rw [hg]; exact (below_size (by repeat (first | (with_reducible first | exact HB.out | apply below_alloc | apply pw_below_drewN | apply below_drew1) | exact HB.out))) : w.heap.size ≤ gb142)); have n3_ := Aside0.mk ((by rw [hg]; exact (below_size (by repeat (first | (with_reducible first | exact HB.out | apply below_alloc | apply pw_below_drewN | apply below_drew1) | exact HB.out))) : w.heap.size ≤ gb142)); clear HB; have HB := n0_; have BK142 := n1_; have GW142 := n2_; have GE142 := n3_; clear n0_ n1_ n2_ n3_; clear hb hbox hg) | ((with_reducible refine gate_dst (N := 2) rfl ?_); refine box_event ?hg (N := 2) ?hd (cs := #[.int .i64 0, .int .i64 0, .int .i64 0, .int .i64 0, .int .i64 0]) (t := 28) ?hr ?_; (case hd => rfl); (case hg => rfl); (case hr => first | (go_simp; done) | (go_simp; rfl)); intro gb143 hg w7 hbox hb; have n0_ := Aside0.mk (blk_below (g := gb142) (o := .cells #[.bool a0_0, .bool true, .int .i64 a0_2, .bool a0_3, .bool a0_4, .bool a0_5, .bool a0_6, .int .i64 a0_7, .bool a0_8, .bool a0_9, .bool a0_10, .bool a0_11, .bool a0_12, .bool a0_13, .bool a0_14, .bool a0_15, .int .i64 a0_16] 23 (0, 0)) (by (with_reducible repeat (first | refine blk_drewN ?_ _ | refine blk_drew ?_ | refine blk_alloc ?_ _)); exact BK142.out) hb); have n1_ := Aside0.mk (below_step (by repeat (first | (with_reducible first | exact HB.out | apply below_alloc | apply pw_below_drewN | apply below_drew1 | refine below_set ?_ GE142.out) | exact HB.out)) hb); have n2_ := Aside0.mk (hbox); have n3_ := Aside0.mk ((by rw [hg]; exact (below_size (by repeat (first | (with_reducible first | exact HB.out | apply below_alloc | apply pw_below_drewN | apply below_drew1 | refine below_set ?_ GE142.out) | exact HB.out))) : w.heap.size ≤ gb143)); have n4_ := Aside0.mk ((by rw [hg]; exact (below_size (by repeat (first | (with_reducible first | exact HB.out | apply below_alloc | apply pw_below_drewN | apply below_drew1 | refine below_set ?_ GE142.out) | exact HB.out))) : w.heap.size ≤ gb143)); have n5_ := Aside0.mk ((by rw [hg]; exact Nat.ne_of_lt (blk_lt (g := gb142) (o := .cells #[.bool a0_0, .bool true, .int .i64 a0_2, .bool a0_3, .bool a0_4, .bool a0_5, .bool a0_6, .int .i64 a0_7, .bool a0_8, .bool a0_9, .bool a0_10, .bool a0_11, .bool a0_12, .bool a0_13, .bool a0_14, .bool a0_15, .int .i64 a0_16] 23 (0, 0)) (by (with_reducible repeat (first | refine blk_drewN ?_ _ | refine blk_drew ?_ | refine blk_alloc ?_ _)); exact BK142.out)) : gb142 ≠ gb143)); have n6_ := Aside0.mk ((by rw [hg]; exact Nat.ne_of_gt (blk_lt (g := gb142) (o := .cells #[.bool a0_0, .bool true, .int .i64 a0_2, .bool a0_3, .bool a0_4, .bool a0_5, .bool a0_6, .int .i64 a0_7, .bool a0_8, .bool a0_9, .bool a0_10, .bool a0_11, .bool a0_12, .bool a0_13, .bool a0_14, .bool a0_15, .int .i64 a0_16] 23 (0, 0)) (by (with_reducible repeat (first | refine blk_drewN ?_ _ | refine blk_drew ?_ | refine blk_alloc ?_ _)); exact BK142.out)) : gb143 ≠ gb142)); clear BK142; clear HB; have BK142 := n0_; have HB := n1_; have BK143 := n2_; have GW143 := n3_; have GE143 := n4_; have NB142_143 := n5_; have NB143_142 := n6_; clear n0_ n1_ n2_ n3_ n4_ n5_ n6_; clear hb hbox hg; have hnb8 := NB142_143.out; have hnc8 := NB143_142.out; have hcz9_0 : w7.cell? ⟨gb142, 0, none⟩ = some (.bool a0_0) := (blk_cell BK142.out 0).trans rfl; have hcz9_1 : w7.cell? ⟨gb142, 1, none⟩ = some (.bool true) := (blk_cell BK142.out 1).trans rfl; have hcz9_2 : w7.cell? ⟨gb142, 2, none⟩ = some (.int .i64 a0_2) := (blk_cell BK142.out 2).trans rfl; have hcz9_3 : w7.cell? ⟨gb142, 3, none⟩ = some (.bool a0_3) := (blk_cell BK142.out 3).trans rfl; have hcz9_4 : w7.cell? ⟨gb142, 4, none⟩ = some (.bool a0_4) := (blk_cell BK142.out 4).trans rfl; have hcz9_5 : w7.cell? ⟨gb142, 5, none⟩ = some (.bool a0_5) := (blk_cell BK142.out 5).trans rfl; have hcz9_6 : w7.cell? ⟨gb142, 6, none⟩ = some (.bool a0_6) := (blk_cell BK142.out 6).trans rfl; have hcz9_7 : w7.cell? ⟨gb142, 7, none⟩ = some (.int .i64 a0_7) := (blk_cell BK142.out 7).trans rfl; have hcz9_8 : w7.cell? ⟨gb142, 8, none⟩ = some (.bool a0_8) := (blk_cell BK142.out 8).trans rfl; have hcz9_9 : w7.cell? ⟨gb142, 9, none⟩ = some (.bool a0_9) := (blk_cell BK142.out 9).trans rfl; have hcz9_10 : w7.cell? ⟨gb142, 10, none⟩ = some (.bool a0_10) := (blk_cell BK142.out 10).trans rfl; have hcz9_11 : w7.cell? ⟨gb142, 11, none⟩ = some (.bool a0_11) := (blk_cell BK142.out 11).trans rfl; have hcz9_12 : w7.cell? ⟨gb142, 12, none⟩ = some (.bool a0_12) := (blk_cell BK142.out 12).trans rfl; have hcz9_13 : w7.cell? ⟨gb142, 13, none⟩ = some (.bool a0_13) := (blk_cell BK142.out 13).trans rfl; have hcz9_14 : w7.cell? ⟨gb142, 14, none⟩ = some (.bool a0_14) := (blk_cell BK142.out 14).trans rfl; have hcz9_15 : w7.cell? ⟨gb142, 15, none⟩ = some (.bool a0_15) := (blk_cell BK142.out 15).trans rfl; have hcz9_16 : w7.cell? ⟨gb142, 16, none⟩ = some (.int .i64 a0_16) := (blk_cell BK142.out 16).trans rfl; have hfz9_0 := blk_frozen BK142.out 0; have hfz9_1 := blk_frozen BK142.out 1; have hfz9_2 := blk_frozen BK142.out 2; have hfz9_3 := blk_frozen BK142.out 3; have hfz9_4 := blk_frozen BK142.out 4; have hfz9_5 := blk_frozen BK142.out 5; have hfz9_6 := blk_frozen BK142.out 6; have hfz9_7 := blk_frozen BK142.out 7; have hfz9_8 := blk_frozen BK142.out 8; have hfz9_9 := blk_frozen BK142.out 9; have hfz9_10 := blk_frozen BK142.out 10; have hfz9_11 := blk_frozen BK142.out 11; have hfz9_12 := blk_frozen BK142.out 12; have hfz9_13 := blk_frozen BK142.out 13; have hfz9_14 := blk_frozen BK142.out 14; have hfz9_15 := blk_frozen BK142.out 15; have hfz9_16 := blk_frozen BK142.out 16) | ((with_reducible refine gate_callee (f := 11) rfl ?_); refine goesL_ (some 6) rfl rfl Try.func11 (by kernel_rfl) rfl #[.agg #[.bool a0_0, .bool true, .int .i64 a0_2, .bool a0_3, .bool a0_4, .bool a0_5, .bool a0_6, .int .i64 a0_7, .bool a0_8, .bool a0_9, .bool a0_10, .bool a0_11, .bool a0_12, .bool a0_13, .bool a0_14, .bool a0_15, .int .i64 a0_16]] rfl (by (try simp only [List.map_toArray, List.map_cons, List.map_nil]); first | done | rfl | (simp only [List.length_drop, List.length_take]; rfl)) ?_; (with_reducible refine (estoversref26_Check.calls k a0_0 true a0_2 a0_3 a0_4 a0_5 a0_6 a0_7 a0_8 a0_9 a0_10 a0_11 a0_12 a0_13 a0_14 a0_15 a0_16 t144 _ A2.out).mono ?_); rintro e w10 ⟨rfl, hb⟩; refine ⟨_, rfl, ?_⟩; have n0_ := Aside0.mk (blk_below (g := gb142) (o := .cells #[.bool a0_0, .bool true, .int .i64 a0_2, .bool a0_3, .bool a0_4, .bool a0_5, .bool a0_6, .int .i64 a0_7, .bool a0_8, .bool a0_9, .bool a0_10, .bool a0_11, .bool a0_12, .bool a0_13, .bool a0_14, .bool a0_15, .int .i64 a0_16] 23 (0, 0)) (by (with_reducible repeat (first | refine blk_drewN ?_ _ | refine blk_drew ?_ | refine blk_alloc ?_ _)); exact BK142.out) hb); have n1_ := Aside0.mk (blk_below (g := gb143) (o := .cells #[.int .i64 0, .int .i64 0, .int .i64 0, .int .i64 0, .int .i64 0] 28 (0, 0)) (by (with_reducible repeat (first | refine blk_drewN ?_ _ | refine blk_drew ?_ | refine blk_alloc ?_ _)); exact BK143.out) hb); have n2_ := Aside0.mk (below_step (by repeat (first | (with_reducible first | exact HB.out | apply below_alloc | apply pw_below_drewN | apply below_drew1 | refine below_set ?_ GE142.out | refine below_set ?_ GE143.out) | exact HB.out)) hb); clear BK142; clear BK143; clear HB; have BK142 := n0_; have BK143 := n1_; have HB := n2_; clear n0_ n1_ n2_; (try clear hb); (try clear hb2); (try clear hk); (try clear hi); have hcz11_0 : w10.cell? ⟨gb142, 0, none⟩ = some (.bool a0_0) := (blk_cell BK142.out 0).trans rfl; have hcz11_1 : w10.cell? ⟨gb142, 1, none⟩ = some (.bool true) := (blk_cell BK142.out 1).trans rfl; have hcz11_2 : w10.cell? ⟨gb142, 2, none⟩ = some (.int .i64 a0_2) := (blk_cell BK142.out 2).trans rfl; have hcz11_3 : w10.cell? ⟨gb142, 3, none⟩ = some (.bool a0_3) := (blk_cell BK142.out 3).trans rfl; have hcz11_4 : w10.cell? ⟨gb142, 4, none⟩ = some (.bool a0_4) := (blk_cell BK142.out 4).trans rfl; have hcz11_5 : w10.cell? ⟨gb142, 5, none⟩ = some (.bool a0_5) := (blk_cell BK142.out 5).trans rfl; have hcz11_6 : w10.cell? ⟨gb142, 6, none⟩ = some (.bool a0_6) := (blk_cell BK142.out 6).trans rfl; have hcz11_7 : w10.cell? ⟨gb142, 7, none⟩ = some (.int .i64 a0_7) := (blk_cell BK142.out 7).trans rfl; have hcz11_8 : w10.cell? ⟨gb142, 8, none⟩ = some (.bool a0_8) := (blk_cell BK142.out 8).trans rfl; have hcz11_9 : w10.cell? ⟨gb142, 9, none⟩ = some (.bool a0_9) := (blk_cell BK142.out 9).trans rfl; have hcz11_10 : w10.cell? ⟨gb142, 10, none⟩ = some (.bool a0_10) := (blk_cell BK142.out 10).trans rfl; have hcz11_11 : w10.cell? ⟨gb142, 11, none⟩ = some (.bool a0_11) := (blk_cell BK142.out 11).trans rfl; have hcz11_12 : w10.cell? ⟨gb142, 12, none⟩ = some (.bool a0_12) := (blk_cell BK142.out 12).trans rfl; have hcz11_13 : w10.cell? ⟨gb142, 13, none⟩ = some (.bool a0_13) := (blk_cell BK142.out 13).trans rfl; have hcz11_14 : w10.cell? ⟨gb142, 14, none⟩ = some (.bool a0_14) := (blk_cell BK142.out 14).trans rfl; have hcz11_15 : w10.cell? ⟨gb142, 15, none⟩ = some (.bool a0_15) := (blk_cell BK142.out 15).trans rfl; have hcz11_16 : w10.cell? ⟨gb142, 16, none⟩ = some (.int .i64 a0_16) := (blk_cell BK142.out 16).trans rfl; have hfz11_0 := blk_frozen BK142.out 0; have hfz11_1 := blk_frozen BK142.out 1; have hfz11_2 := blk_frozen BK142.out 2; have hfz11_3 := blk_frozen BK142.out 3; have hfz11_4 := blk_frozen BK142.out 4; have hfz11_5 := blk_frozen BK142.out 5; have hfz11_6 := blk_frozen BK142.out 6; have hfz11_7 := blk_frozen BK142.out 7; have hfz11_8 := blk_frozen BK142.out 8; have hfz11_9 := blk_frozen BK142.out 9; have hfz11_10 := blk_frozen BK142.out 10; have hfz11_11 := blk_frozen BK142.out 11; have hfz11_12 := blk_frozen BK142.out 12; have hfz11_13 := blk_frozen BK142.out 13; have hfz11_14 := blk_frozen BK142.out 14; have hfz11_15 := blk_frozen BK142.out 15; have hfz11_16 := blk_frozen BK142.out 16))
      (try simp only [Act.put, List.setIfInBounds_toArray, List.set_cons_zero, List.set_cons_succ])
      go_cut [23] (fun v23 wc => ∃ (kq : Nat) (x23_4 : Bool), v23 = .bool x23_4 ∧ Aside0 (estoversref26_Plan.j0 kq x23_4 a0_0 true a0_2 a0_3 a0_4 a0_5 a0_6 a0_7 a0_8 a0_9 a0_10 a0_11 a0_12 a0_13 a0_14 a0_15 a0_16 = some (r1, r2, r3, r4, r5, r6)) ∧ Aside0 (kq ≤ k) ∧ Aside0 (wc.heap[gb142]? = some (.cells #[.bool a0_0, .bool true, .int .i64 a0_2, .bool a0_3, .bool a0_4, .bool a0_5, .bool a0_6, .int .i64 a0_7, .bool a0_8, .bool a0_9, .bool a0_10, .bool a0_11, .bool a0_12, .bool a0_13, .bool a0_14, .bool a0_15, .int .i64 a0_16] 23 (0, 0))) ∧ Aside0 (wc.heap[gb143]? = some (.cells #[.int .i64 0, .int .i64 0, .int .i64 0, .int .i64 0, .int .i64 0] 28 (0, 0))) ∧ Aside0 (Below w.heap.size w wc))
      case first =>
        have H := HC5.out
        clear HC5
        by_cases c12 : a0_0 = true
        · subst c12
          have H1 : ((estoversref26_writes.f true true a0_2 a0_3 a0_4 a0_5 a0_6 a0_7 a0_8 a0_9 a0_10 a0_11 a0_12 a0_13 a0_14 a0_15 a0_16).bind fun t151 => (estoversref26_Plan.j0 k (!t151) true true a0_2 a0_3 a0_4 a0_5 a0_6 a0_7 a0_8 a0_9 a0_10 a0_11 a0_12 a0_13 a0_14 a0_15 a0_16)) = some (r1, r2, r3, r4, r5, r6) := by rw [if_pos rfl] at H; exact H
          clear H
          have H := H1
          clear H1
          replace H := Option.bind_eq_some_iff.mp H
          obtain ⟨t151, A130, H⟩ := H
          replace H : (estoversref26_Plan.j0 k (!t151) true true a0_2 a0_3 a0_4 a0_5 a0_6 a0_7 a0_8 a0_9 a0_10 a0_11 a0_12 a0_13 a0_14 a0_15 a0_16) = some (r1, r2, r3, r4, r5, r6) := H
          have A13 := Aside0.mk A130
          clear A130
          have H' := Aside0.mk H
          clear H
          have hnb14 := NB142_143.out
          have hnc14 := NB143_142.out
          have hcz15_0 : w10.cell? ⟨gb142, 0, none⟩ = some (.bool true) := (blk_cell BK142.out 0).trans rfl
          have hcz15_1 : w10.cell? ⟨gb142, 1, none⟩ = some (.bool true) := (blk_cell BK142.out 1).trans rfl
          have hcz15_2 : w10.cell? ⟨gb142, 2, none⟩ = some (.int .i64 a0_2) := (blk_cell BK142.out 2).trans rfl
          have hcz15_3 : w10.cell? ⟨gb142, 3, none⟩ = some (.bool a0_3) := (blk_cell BK142.out 3).trans rfl
          have hcz15_4 : w10.cell? ⟨gb142, 4, none⟩ = some (.bool a0_4) := (blk_cell BK142.out 4).trans rfl
          have hcz15_5 : w10.cell? ⟨gb142, 5, none⟩ = some (.bool a0_5) := (blk_cell BK142.out 5).trans rfl
          have hcz15_6 : w10.cell? ⟨gb142, 6, none⟩ = some (.bool a0_6) := (blk_cell BK142.out 6).trans rfl
          have hcz15_7 : w10.cell? ⟨gb142, 7, none⟩ = some (.int .i64 a0_7) := (blk_cell BK142.out 7).trans rfl
          have hcz15_8 : w10.cell? ⟨gb142, 8, none⟩ = some (.bool a0_8) := (blk_cell BK142.out 8).trans rfl
          have hcz15_9 : w10.cell? ⟨gb142, 9, none⟩ = some (.bool a0_9) := (blk_cell BK142.out 9).trans rfl
          have hcz15_10 : w10.cell? ⟨gb142, 10, none⟩ = some (.bool a0_10) := (blk_cell BK142.out 10).trans rfl
          have hcz15_11 : w10.cell? ⟨gb142, 11, none⟩ = some (.bool a0_11) := (blk_cell BK142.out 11).trans rfl
          have hcz15_12 : w10.cell? ⟨gb142, 12, none⟩ = some (.bool a0_12) := (blk_cell BK142.out 12).trans rfl
          have hcz15_13 : w10.cell? ⟨gb142, 13, none⟩ = some (.bool a0_13) := (blk_cell BK142.out 13).trans rfl
          have hcz15_14 : w10.cell? ⟨gb142, 14, none⟩ = some (.bool a0_14) := (blk_cell BK142.out 14).trans rfl
          have hcz15_15 : w10.cell? ⟨gb142, 15, none⟩ = some (.bool a0_15) := (blk_cell BK142.out 15).trans rfl
          have hcz15_16 : w10.cell? ⟨gb142, 16, none⟩ = some (.int .i64 a0_16) := (blk_cell BK142.out 16).trans rfl
          have hfz15_0 := blk_frozen BK142.out 0
          have hfz15_1 := blk_frozen BK142.out 1
          have hfz15_2 := blk_frozen BK142.out 2
          have hfz15_3 := blk_frozen BK142.out 3
          have hfz15_4 := blk_frozen BK142.out 4
          have hfz15_5 := blk_frozen BK142.out 5
          have hfz15_6 := blk_frozen BK142.out 6
          have hfz15_7 := blk_frozen BK142.out 7
          have hfz15_8 := blk_frozen BK142.out 8
          have hfz15_9 := blk_frozen BK142.out 9
          have hfz15_10 := blk_frozen BK142.out 10
          have hfz15_11 := blk_frozen BK142.out 11
          have hfz15_12 := blk_frozen BK142.out 12
          have hfz15_13 := blk_frozen BK142.out 13
          have hfz15_14 := blk_frozen BK142.out 14
          have hfz15_15 := blk_frozen BK142.out 15
          have hfz15_16 := blk_frozen BK142.out 16
          go_wp2_with (first | (go_at_call 18; (with_reducible refine (estoversref26_writes.calls true true a0_2 a0_3 a0_4 a0_5 a0_6 a0_7 a0_8 a0_9 a0_10 a0_11 a0_12 a0_13 a0_14 a0_15 a0_16 t151 _ A13.out).mono ?_); rintro e w16 ⟨rfl, hb⟩; have n0_ := Aside0.mk (blk_below (g := gb142) (o := .cells #[.bool true, .bool true, .int .i64 a0_2, .bool a0_3, .bool a0_4, .bool a0_5, .bool a0_6, .int .i64 a0_7, .bool a0_8, .bool a0_9, .bool a0_10, .bool a0_11, .bool a0_12, .bool a0_13, .bool a0_14, .bool a0_15, .int .i64 a0_16] 23 (0, 0)) (by (with_reducible repeat (first | refine blk_drewN ?_ _ | refine blk_drew ?_ | refine blk_alloc ?_ _)); exact BK142.out) hb); have n1_ := Aside0.mk (blk_below (g := gb143) (o := .cells #[.int .i64 0, .int .i64 0, .int .i64 0, .int .i64 0, .int .i64 0] 28 (0, 0)) (by (with_reducible repeat (first | refine blk_drewN ?_ _ | refine blk_drew ?_ | refine blk_alloc ?_ _)); exact BK143.out) hb); have n2_ := Aside0.mk (below_step (by repeat (first | (with_reducible first | exact HB.out | apply below_alloc | apply pw_below_drewN | apply below_drew1 | refine below_set ?_ GE142.out | refine below_set ?_ GE143.out) | exact HB.out)) hb); clear BK142; clear BK143; clear HB; have BK142 := n0_; have BK143 := n1_; have HB := n2_; clear n0_ n1_ n2_; (try clear hb); (try clear hb2); (try clear hk); (try clear hi)))
          go_meet
          case rel => exact ⟨_, (!t151), (by first | rfl | (simp; done) | (simp [*]; done)), H', ⟨by first | omega | exact Nat.le_refl _⟩, ⟨by (with_reducible repeat (first | refine blk_drewN ?_ _ | refine blk_drew ?_ | refine blk_alloc ?_ _)); exact BK142.out⟩, ⟨by (with_reducible repeat (first | refine blk_drewN ?_ _ | refine blk_drew ?_ | refine blk_alloc ?_ _)); exact BK143.out⟩, ⟨by repeat (first | (with_reducible first | exact HB.out | apply below_alloc | apply pw_below_drewN | apply below_drew1 | refine below_set ?_ GE142.out | refine below_set ?_ GE143.out) | exact HB.out)⟩⟩
        · replace c12 := Bool.eq_false_iff.mpr c12
          subst c12
          have H1 : (estoversref26_Plan.j0 k false false true a0_2 a0_3 a0_4 a0_5 a0_6 a0_7 a0_8 a0_9 a0_10 a0_11 a0_12 a0_13 a0_14 a0_15 a0_16) = some (r1, r2, r3, r4, r5, r6) := by rw [if_neg (show ¬ (false = true) by decide)] at H; exact H
          clear H
          have H := H1
          clear H1
          have H' := Aside0.mk H
          clear H
          have hnb17 := NB142_143.out
          have hnc17 := NB143_142.out
          have hcz18_0 : w10.cell? ⟨gb142, 0, none⟩ = some (.bool false) := (blk_cell BK142.out 0).trans rfl
          have hcz18_1 : w10.cell? ⟨gb142, 1, none⟩ = some (.bool true) := (blk_cell BK142.out 1).trans rfl
          have hcz18_2 : w10.cell? ⟨gb142, 2, none⟩ = some (.int .i64 a0_2) := (blk_cell BK142.out 2).trans rfl
          have hcz18_3 : w10.cell? ⟨gb142, 3, none⟩ = some (.bool a0_3) := (blk_cell BK142.out 3).trans rfl
          have hcz18_4 : w10.cell? ⟨gb142, 4, none⟩ = some (.bool a0_4) := (blk_cell BK142.out 4).trans rfl
          have hcz18_5 : w10.cell? ⟨gb142, 5, none⟩ = some (.bool a0_5) := (blk_cell BK142.out 5).trans rfl
          have hcz18_6 : w10.cell? ⟨gb142, 6, none⟩ = some (.bool a0_6) := (blk_cell BK142.out 6).trans rfl
          have hcz18_7 : w10.cell? ⟨gb142, 7, none⟩ = some (.int .i64 a0_7) := (blk_cell BK142.out 7).trans rfl
          have hcz18_8 : w10.cell? ⟨gb142, 8, none⟩ = some (.bool a0_8) := (blk_cell BK142.out 8).trans rfl
          have hcz18_9 : w10.cell? ⟨gb142, 9, none⟩ = some (.bool a0_9) := (blk_cell BK142.out 9).trans rfl
          have hcz18_10 : w10.cell? ⟨gb142, 10, none⟩ = some (.bool a0_10) := (blk_cell BK142.out 10).trans rfl
          have hcz18_11 : w10.cell? ⟨gb142, 11, none⟩ = some (.bool a0_11) := (blk_cell BK142.out 11).trans rfl
          have hcz18_12 : w10.cell? ⟨gb142, 12, none⟩ = some (.bool a0_12) := (blk_cell BK142.out 12).trans rfl
          have hcz18_13 : w10.cell? ⟨gb142, 13, none⟩ = some (.bool a0_13) := (blk_cell BK142.out 13).trans rfl
          have hcz18_14 : w10.cell? ⟨gb142, 14, none⟩ = some (.bool a0_14) := (blk_cell BK142.out 14).trans rfl
          have hcz18_15 : w10.cell? ⟨gb142, 15, none⟩ = some (.bool a0_15) := (blk_cell BK142.out 15).trans rfl
          have hcz18_16 : w10.cell? ⟨gb142, 16, none⟩ = some (.int .i64 a0_16) := (blk_cell BK142.out 16).trans rfl
          have hfz18_0 := blk_frozen BK142.out 0
          have hfz18_1 := blk_frozen BK142.out 1
          have hfz18_2 := blk_frozen BK142.out 2
          have hfz18_3 := blk_frozen BK142.out 3
          have hfz18_4 := blk_frozen BK142.out 4
          have hfz18_5 := blk_frozen BK142.out 5
          have hfz18_6 := blk_frozen BK142.out 6
          have hfz18_7 := blk_frozen BK142.out 7
          have hfz18_8 := blk_frozen BK142.out 8
          have hfz18_9 := blk_frozen BK142.out 9
          have hfz18_10 := blk_frozen BK142.out 10
          have hfz18_11 := blk_frozen BK142.out 11
          have hfz18_12 := blk_frozen BK142.out 12
          have hfz18_13 := blk_frozen BK142.out 13
          have hfz18_14 := blk_frozen BK142.out 14
          have hfz18_15 := blk_frozen BK142.out 15
          have hfz18_16 := blk_frozen BK142.out 16
          go_wp2
          go_meet
          case rel => exact ⟨_, (false), (by first | rfl | (simp; done) | (simp [*]; done)), H', ⟨by first | omega | exact Nat.le_refl _⟩, ⟨by (with_reducible repeat (first | refine blk_drewN ?_ _ | refine blk_drew ?_ | refine blk_alloc ?_ _)); exact BK142.out⟩, ⟨by (with_reducible repeat (first | refine blk_drewN ?_ _ | refine blk_drew ?_ | refine blk_alloc ?_ _)); exact BK143.out⟩, ⟨by repeat (first | (with_reducible first | exact HB.out | apply below_alloc | apply pw_below_drewN | apply below_drew1 | refine below_set ?_ GE142.out | refine below_set ?_ GE143.out) | exact HB.out)⟩⟩
      case rest =>
        clear HC5
        try clear c1
        try clear p2
        try clear c3
        try clear c3b0
        try clear c3b1
        try clear c4
        try clear c8
        try clear c11
        try clear c12
        try clear c14
        try clear c17
        try clear hcz11_0
        try clear hcz11_1
        try clear hcz11_10
        try clear hcz11_11
        try clear hcz11_12
        try clear hcz11_13
        try clear hcz11_14
        try clear hcz11_15
        try clear hcz11_16
        try clear hcz11_2
        try clear hcz11_3
        try clear hcz11_4
        try clear hcz11_5
        try clear hcz11_6
        try clear hcz11_7
        try clear hcz11_8
        try clear hcz11_9
        try clear hcz15_0
        try clear hcz15_1
        try clear hcz15_10
        try clear hcz15_11
        try clear hcz15_12
        try clear hcz15_13
        try clear hcz15_14
        try clear hcz15_15
        try clear hcz15_16
        try clear hcz15_2
        try clear hcz15_3
        try clear hcz15_4
        try clear hcz15_5
        try clear hcz15_6
        try clear hcz15_7
        try clear hcz15_8
        try clear hcz15_9
        try clear hcz18_0
        try clear hcz18_1
        try clear hcz18_10
        try clear hcz18_11
        try clear hcz18_12
        try clear hcz18_13
        try clear hcz18_14
        try clear hcz18_15
        try clear hcz18_16
        try clear hcz18_2
        try clear hcz18_3
        try clear hcz18_4
        try clear hcz18_5
        try clear hcz18_6
        try clear hcz18_7
        try clear hcz18_8
        try clear hcz18_9
        try clear hcz9_0
        try clear hcz9_1
        try clear hcz9_10
        try clear hcz9_11
        try clear hcz9_12
        try clear hcz9_13
        try clear hcz9_14
        try clear hcz9_15
        try clear hcz9_16
        try clear hcz9_2
        try clear hcz9_3
        try clear hcz9_4
        try clear hcz9_5
        try clear hcz9_6
        try clear hcz9_7
        try clear hcz9_8
        try clear hcz9_9
        try clear hfz11_0
        try clear hfz11_1
        try clear hfz11_10
        try clear hfz11_11
        try clear hfz11_12
        try clear hfz11_13
        try clear hfz11_14
        try clear hfz11_15
        try clear hfz11_16
        try clear hfz11_2
        try clear hfz11_3
        try clear hfz11_4
        try clear hfz11_5
        try clear hfz11_6
        try clear hfz11_7
        try clear hfz11_8
        try clear hfz11_9
        try clear hfz15_0
        try clear hfz15_1
        try clear hfz15_10
        try clear hfz15_11
        try clear hfz15_12
        try clear hfz15_13
        try clear hfz15_14
        try clear hfz15_15
        try clear hfz15_16
        try clear hfz15_2
        try clear hfz15_3
        try clear hfz15_4
        try clear hfz15_5
        try clear hfz15_6
        try clear hfz15_7
        try clear hfz15_8
        try clear hfz15_9
        try clear hfz18_0
        try clear hfz18_1
        try clear hfz18_10
        try clear hfz18_11
        try clear hfz18_12
        try clear hfz18_13
        try clear hfz18_14
        try clear hfz18_15
        try clear hfz18_16
        try clear hfz18_2
        try clear hfz18_3
        try clear hfz18_4
        try clear hfz18_5
        try clear hfz18_6
        try clear hfz18_7
        try clear hfz18_8
        try clear hfz18_9
        try clear hfz9_0
        try clear hfz9_1
        try clear hfz9_10
        try clear hfz9_11
        try clear hfz9_12
        try clear hfz9_13
        try clear hfz9_14
        try clear hfz9_15
        try clear hfz9_16
        try clear hfz9_2
        try clear hfz9_3
        try clear hfz9_4
        try clear hfz9_5
        try clear hfz9_6
        try clear hfz9_7
        try clear hfz9_8
        try clear hfz9_9
        obtain ⟨kq, x23_4, rfl, HA, HJ4, BK142, BK143, HB⟩ := hcut
        cases kq with
        | zero => exact absurd HA.out (by simp [estoversref26_Plan.j0])
        | succ kj4 =>
          have H := HA.out
          clear HA
          simp only [estoversref26_Plan.j0] at H
          by_cases c19 : x23_4 = true
          · subst c19
            have H1 : ((estoversref26_refuse.f 12).bind fun bt152 => (some (bt152.1, bt152.2.1, bt152.2.2.1, bt152.2.2.2.1, bt152.2.2.2.2.1, bt152.2.2.2.2.2))) = some (r1, r2, r3, r4, r5, r6) := by rw [if_pos rfl] at H; exact H
            clear H
            have H := H1
            clear H1
            replace H := Option.bind_eq_some_iff.mp H
            obtain ⟨⟨t152, t153, t154, t155, t156, t157⟩, A200, H⟩ := H
            replace H : (some (t152, t153, t154, t155, t156, t157)) = some (r1, r2, r3, r4, r5, r6) := H
            have A20 := Aside0.mk A200
            clear A200
            simp only [Option.some.injEq, Prod.mk.injEq] at H
            obtain ⟨rfl, rfl, rfl, rfl, rfl, rfl⟩ := H
            go_wp2_with (first | ((with_reducible refine gate_callee (f := 21) rfl ?_); refine goesL_ (some 24) rfl rfl Try.func21 (by kernel_rfl) rfl #[.int .i64 12] rfl (by (try simp only [List.map_toArray, List.map_cons, List.map_nil]); first | done | rfl | (simp only [List.length_drop, List.length_take]; rfl)) ?_; (with_reducible refine (estoversref26_refuse.calls 12 t152 t153 t154 t155 t156 t157 _ A20.out).mono ?_); rintro e w21 ⟨rfl, hb⟩; refine ⟨_, rfl, ?_⟩; have n0_ := Aside0.mk (blk_below (g := gb142) (o := .cells #[.bool a0_0, .bool true, .int .i64 a0_2, .bool a0_3, .bool a0_4, .bool a0_5, .bool a0_6, .int .i64 a0_7, .bool a0_8, .bool a0_9, .bool a0_10, .bool a0_11, .bool a0_12, .bool a0_13, .bool a0_14, .bool a0_15, .int .i64 a0_16] 23 (0, 0)) (by (with_reducible repeat (first | refine blk_drewN ?_ _ | refine blk_drew ?_ | refine blk_alloc ?_ _)); exact BK142.out) hb); have n1_ := Aside0.mk (blk_below (g := gb143) (o := .cells #[.int .i64 0, .int .i64 0, .int .i64 0, .int .i64 0, .int .i64 0] 28 (0, 0)) (by (with_reducible repeat (first | refine blk_drewN ?_ _ | refine blk_drew ?_ | refine blk_alloc ?_ _)); exact BK143.out) hb); have n2_ := Aside0.mk (below_step (by repeat (first | (with_reducible first | exact HB.out | apply below_alloc | apply pw_below_drewN | apply below_drew1 | refine below_set ?_ GE142.out | refine below_set ?_ GE143.out) | exact HB.out)) hb); clear BK142; clear BK143; clear HB; have BK142 := n0_; have BK143 := n1_; have HB := n2_; clear n0_ n1_ n2_; (try clear hb); (try clear hb2); (try clear hk); (try clear hi); have hnb22 := NB143_142.out; have hnc22 := NB142_143.out; have hcz23_0 : w21.cell? ⟨gb143, 0, none⟩ = some (.int .i64 0) := (blk_cell BK143.out 0).trans rfl; have hcz23_1 : w21.cell? ⟨gb143, 1, none⟩ = some (.int .i64 0) := (blk_cell BK143.out 1).trans rfl; have hcz23_2 : w21.cell? ⟨gb143, 2, none⟩ = some (.int .i64 0) := (blk_cell BK143.out 2).trans rfl; have hcz23_3 : w21.cell? ⟨gb143, 3, none⟩ = some (.int .i64 0) := (blk_cell BK143.out 3).trans rfl; have hcz23_4 : w21.cell? ⟨gb143, 4, none⟩ = some (.int .i64 0) := (blk_cell BK143.out 4).trans rfl; have hfz23_0 := blk_frozen BK143.out 0; have hfz23_1 := blk_frozen BK143.out 1; have hfz23_2 := blk_frozen BK143.out 2; have hfz23_3 := blk_frozen BK143.out 3; have hfz23_4 := blk_frozen BK143.out 4))
            refine bodyPost_ret (results_ct rfl _ _ gb143 28 #[.int .i64 t152, .int .i64 t153, .int .i64 t154, .int .i64 t155, .int .i64 t156] (0, 0) _ rfl (by (with_reducible repeat (first | refine blk_drewN ?_ _ | refine blk_drew ?_ | refine blk_alloc ?_ _)); refine blk_put (cs := #[.int .i64 t152, .int .i64 t153, .int .i64 t154, .int .i64 t155, .int .i64 0]) ?_ 4 _ rfl; (with_reducible repeat (first | refine blk_drewN ?_ _ | refine blk_drew ?_ | refine blk_alloc ?_ _)); refine blk_put (cs := #[.int .i64 t152, .int .i64 t153, .int .i64 t154, .int .i64 0, .int .i64 0]) ?_ 3 _ rfl; (with_reducible repeat (first | refine blk_drewN ?_ _ | refine blk_drew ?_ | refine blk_alloc ?_ _)); refine blk_put (cs := #[.int .i64 t152, .int .i64 t153, .int .i64 0, .int .i64 0, .int .i64 0]) ?_ 2 _ rfl; (with_reducible repeat (first | refine blk_drewN ?_ _ | refine blk_drew ?_ | refine blk_alloc ?_ _)); refine blk_put (cs := #[.int .i64 t152, .int .i64 0, .int .i64 0, .int .i64 0, .int .i64 0]) ?_ 1 _ rfl; (with_reducible repeat (first | refine blk_drewN ?_ _ | refine blk_drew ?_ | refine blk_alloc ?_ _)); refine blk_put (cs := #[.int .i64 0, .int .i64 0, .int .i64 0, .int .i64 0, .int .i64 0]) ?_ 0 _ rfl; (with_reducible repeat (first | refine blk_drewN ?_ _ | refine blk_drew ?_ | refine blk_alloc ?_ _)); exact BK143.out) Try.underlying28 rfl (by kernel_rfl)) rfl ?_
            exact ⟨by first | rfl | (simp [errW_none, errW_some] <;> rfl) | (simp [*, errW_none, errW_some] <;> rfl), by repeat (first | (with_reducible first | exact HB.out | apply below_alloc | apply pw_below_drewN | apply below_drew1 | refine below_set ?_ GE142.out | refine below_set ?_ GE143.out) | exact HB.out)⟩
          · replace c19 := Bool.eq_false_iff.mpr c19
            subst c19
            have H1 : (if a0_5 = true then ((estoversref26_OwnCopy.f a0_0 true a0_2 a0_3 a0_4 a0_5 a0_6 a0_7 a0_8 a0_9 a0_10 a0_11 a0_12 a0_13 a0_14 a0_15 a0_16).bind fun t158 => (estoversref26_Plan.j1 kj4 (!t158) a0_0 true a0_2 a0_3 a0_4 a0_5 a0_6 a0_7 a0_8 a0_9 a0_10 a0_11 a0_12 a0_13 a0_14 a0_15 a0_16)) else (estoversref26_Plan.j1 kj4 false a0_0 true a0_2 a0_3 a0_4 a0_5 a0_6 a0_7 a0_8 a0_9 a0_10 a0_11 a0_12 a0_13 a0_14 a0_15 a0_16)) = some (r1, r2, r3, r4, r5, r6) := by rw [if_neg (show ¬ (false = true) by decide)] at H; exact H
            clear H
            have H := H1
            clear H1
            have HC24 := Aside0.mk H
            clear H
            go_upto_region 8 with (fail)
            go_cut [33] (fun v33 wc => ∃ (kq : Nat) (x33_23 : Bool), v33 = .bool x33_23 ∧ Aside0 (estoversref26_Plan.j1 kq x33_23 a0_0 true a0_2 a0_3 a0_4 a0_5 a0_6 a0_7 a0_8 a0_9 a0_10 a0_11 a0_12 a0_13 a0_14 a0_15 a0_16 = some (r1, r2, r3, r4, r5, r6)) ∧ Aside0 (kq ≤ kj4) ∧ Aside0 (wc.heap[gb142]? = some (.cells #[.bool a0_0, .bool true, .int .i64 a0_2, .bool a0_3, .bool a0_4, .bool a0_5, .bool a0_6, .int .i64 a0_7, .bool a0_8, .bool a0_9, .bool a0_10, .bool a0_11, .bool a0_12, .bool a0_13, .bool a0_14, .bool a0_15, .int .i64 a0_16] 23 (0, 0))) ∧ Aside0 (wc.heap[gb143]? = some (.cells #[.int .i64 0, .int .i64 0, .int .i64 0, .int .i64 0, .int .i64 0] 28 (0, 0))) ∧ Aside0 (Below w.heap.size w wc))
            case first =>
              have H := HC24.out
              clear HC24
              by_cases c25 : a0_5 = true
              · subst c25
                have H1 : ((estoversref26_OwnCopy.f a0_0 true a0_2 a0_3 a0_4 true a0_6 a0_7 a0_8 a0_9 a0_10 a0_11 a0_12 a0_13 a0_14 a0_15 a0_16).bind fun t158 => (estoversref26_Plan.j1 kj4 (!t158) a0_0 true a0_2 a0_3 a0_4 true a0_6 a0_7 a0_8 a0_9 a0_10 a0_11 a0_12 a0_13 a0_14 a0_15 a0_16)) = some (r1, r2, r3, r4, r5, r6) := by rw [if_pos rfl] at H; exact H
                clear H
                have H := H1
                clear H1
                replace H := Option.bind_eq_some_iff.mp H
                obtain ⟨t158, A260, H⟩ := H
                replace H : (estoversref26_Plan.j1 kj4 (!t158) a0_0 true a0_2 a0_3 a0_4 true a0_6 a0_7 a0_8 a0_9 a0_10 a0_11 a0_12 a0_13 a0_14 a0_15 a0_16) = some (r1, r2, r3, r4, r5, r6) := H
                have A26 := Aside0.mk A260
                clear A260
                have H' := Aside0.mk H
                clear H
                have hnb27 := NB142_143.out
                have hnc27 := NB143_142.out
                have hcz28_0 : wc.cell? ⟨gb142, 0, none⟩ = some (.bool a0_0) := (blk_cell BK142.out 0).trans rfl
                have hcz28_1 : wc.cell? ⟨gb142, 1, none⟩ = some (.bool true) := (blk_cell BK142.out 1).trans rfl
                have hcz28_2 : wc.cell? ⟨gb142, 2, none⟩ = some (.int .i64 a0_2) := (blk_cell BK142.out 2).trans rfl
                have hcz28_3 : wc.cell? ⟨gb142, 3, none⟩ = some (.bool a0_3) := (blk_cell BK142.out 3).trans rfl
                have hcz28_4 : wc.cell? ⟨gb142, 4, none⟩ = some (.bool a0_4) := (blk_cell BK142.out 4).trans rfl
                have hcz28_5 : wc.cell? ⟨gb142, 5, none⟩ = some (.bool true) := (blk_cell BK142.out 5).trans rfl
                have hcz28_6 : wc.cell? ⟨gb142, 6, none⟩ = some (.bool a0_6) := (blk_cell BK142.out 6).trans rfl
                have hcz28_7 : wc.cell? ⟨gb142, 7, none⟩ = some (.int .i64 a0_7) := (blk_cell BK142.out 7).trans rfl
                have hcz28_8 : wc.cell? ⟨gb142, 8, none⟩ = some (.bool a0_8) := (blk_cell BK142.out 8).trans rfl
                have hcz28_9 : wc.cell? ⟨gb142, 9, none⟩ = some (.bool a0_9) := (blk_cell BK142.out 9).trans rfl
                have hcz28_10 : wc.cell? ⟨gb142, 10, none⟩ = some (.bool a0_10) := (blk_cell BK142.out 10).trans rfl
                have hcz28_11 : wc.cell? ⟨gb142, 11, none⟩ = some (.bool a0_11) := (blk_cell BK142.out 11).trans rfl
                have hcz28_12 : wc.cell? ⟨gb142, 12, none⟩ = some (.bool a0_12) := (blk_cell BK142.out 12).trans rfl
                have hcz28_13 : wc.cell? ⟨gb142, 13, none⟩ = some (.bool a0_13) := (blk_cell BK142.out 13).trans rfl
                have hcz28_14 : wc.cell? ⟨gb142, 14, none⟩ = some (.bool a0_14) := (blk_cell BK142.out 14).trans rfl
                have hcz28_15 : wc.cell? ⟨gb142, 15, none⟩ = some (.bool a0_15) := (blk_cell BK142.out 15).trans rfl
                have hcz28_16 : wc.cell? ⟨gb142, 16, none⟩ = some (.int .i64 a0_16) := (blk_cell BK142.out 16).trans rfl
                have hfz28_0 := blk_frozen BK142.out 0
                have hfz28_1 := blk_frozen BK142.out 1
                have hfz28_2 := blk_frozen BK142.out 2
                have hfz28_3 := blk_frozen BK142.out 3
                have hfz28_4 := blk_frozen BK142.out 4
                have hfz28_5 := blk_frozen BK142.out 5
                have hfz28_6 := blk_frozen BK142.out 6
                have hfz28_7 := blk_frozen BK142.out 7
                have hfz28_8 := blk_frozen BK142.out 8
                have hfz28_9 := blk_frozen BK142.out 9
                have hfz28_10 := blk_frozen BK142.out 10
                have hfz28_11 := blk_frozen BK142.out 11
                have hfz28_12 := blk_frozen BK142.out 12
                have hfz28_13 := blk_frozen BK142.out 13
                have hfz28_14 := blk_frozen BK142.out 14
                have hfz28_15 := blk_frozen BK142.out 15
                have hfz28_16 := blk_frozen BK142.out 16
                go_wp2_with (first | (go_at_call 22; (with_reducible refine (estoversref26_OwnCopy.calls a0_0 true a0_2 a0_3 a0_4 true a0_6 a0_7 a0_8 a0_9 a0_10 a0_11 a0_12 a0_13 a0_14 a0_15 a0_16 t158 _ A26.out).mono ?_); rintro e w29 ⟨rfl, hb⟩; have n0_ := Aside0.mk (blk_below (g := gb142) (o := .cells #[.bool a0_0, .bool true, .int .i64 a0_2, .bool a0_3, .bool a0_4, .bool true, .bool a0_6, .int .i64 a0_7, .bool a0_8, .bool a0_9, .bool a0_10, .bool a0_11, .bool a0_12, .bool a0_13, .bool a0_14, .bool a0_15, .int .i64 a0_16] 23 (0, 0)) (by (with_reducible repeat (first | refine blk_drewN ?_ _ | refine blk_drew ?_ | refine blk_alloc ?_ _)); exact BK142.out) hb); have n1_ := Aside0.mk (blk_below (g := gb143) (o := .cells #[.int .i64 0, .int .i64 0, .int .i64 0, .int .i64 0, .int .i64 0] 28 (0, 0)) (by (with_reducible repeat (first | refine blk_drewN ?_ _ | refine blk_drew ?_ | refine blk_alloc ?_ _)); exact BK143.out) hb); have n2_ := Aside0.mk (below_step (by repeat (first | (with_reducible first | exact HB.out | apply below_alloc | apply pw_below_drewN | apply below_drew1 | refine below_set ?_ GE142.out | refine below_set ?_ GE143.out) | exact HB.out)) hb); clear BK142; clear BK143; clear HB; have BK142 := n0_; have BK143 := n1_; have HB := n2_; clear n0_ n1_ n2_; (try clear hb); (try clear hb2); (try clear hk); (try clear hi)))
                go_meet
                case rel => exact ⟨_, (!t158), (by first | rfl | (simp; done) | (simp [*]; done)), H', ⟨by have := HJ4.out; first | omega | exact Nat.le_refl _⟩, ⟨by (with_reducible repeat (first | refine blk_drewN ?_ _ | refine blk_drew ?_ | refine blk_alloc ?_ _)); exact BK142.out⟩, ⟨by (with_reducible repeat (first | refine blk_drewN ?_ _ | refine blk_drew ?_ | refine blk_alloc ?_ _)); exact BK143.out⟩, ⟨by repeat (first | (with_reducible first | exact HB.out | apply below_alloc | apply pw_below_drewN | apply below_drew1 | refine below_set ?_ GE142.out | refine below_set ?_ GE143.out) | exact HB.out)⟩⟩
              · replace c25 := Bool.eq_false_iff.mpr c25
                subst c25
                have H1 : (estoversref26_Plan.j1 kj4 false a0_0 true a0_2 a0_3 a0_4 false a0_6 a0_7 a0_8 a0_9 a0_10 a0_11 a0_12 a0_13 a0_14 a0_15 a0_16) = some (r1, r2, r3, r4, r5, r6) := by rw [if_neg (show ¬ (false = true) by decide)] at H; exact H
                clear H
                have H := H1
                clear H1
                have H' := Aside0.mk H
                clear H
                have hnb30 := NB142_143.out
                have hnc30 := NB143_142.out
                have hcz31_0 : wc.cell? ⟨gb142, 0, none⟩ = some (.bool a0_0) := (blk_cell BK142.out 0).trans rfl
                have hcz31_1 : wc.cell? ⟨gb142, 1, none⟩ = some (.bool true) := (blk_cell BK142.out 1).trans rfl
                have hcz31_2 : wc.cell? ⟨gb142, 2, none⟩ = some (.int .i64 a0_2) := (blk_cell BK142.out 2).trans rfl
                have hcz31_3 : wc.cell? ⟨gb142, 3, none⟩ = some (.bool a0_3) := (blk_cell BK142.out 3).trans rfl
                have hcz31_4 : wc.cell? ⟨gb142, 4, none⟩ = some (.bool a0_4) := (blk_cell BK142.out 4).trans rfl
                have hcz31_5 : wc.cell? ⟨gb142, 5, none⟩ = some (.bool false) := (blk_cell BK142.out 5).trans rfl
                have hcz31_6 : wc.cell? ⟨gb142, 6, none⟩ = some (.bool a0_6) := (blk_cell BK142.out 6).trans rfl
                have hcz31_7 : wc.cell? ⟨gb142, 7, none⟩ = some (.int .i64 a0_7) := (blk_cell BK142.out 7).trans rfl
                have hcz31_8 : wc.cell? ⟨gb142, 8, none⟩ = some (.bool a0_8) := (blk_cell BK142.out 8).trans rfl
                have hcz31_9 : wc.cell? ⟨gb142, 9, none⟩ = some (.bool a0_9) := (blk_cell BK142.out 9).trans rfl
                have hcz31_10 : wc.cell? ⟨gb142, 10, none⟩ = some (.bool a0_10) := (blk_cell BK142.out 10).trans rfl
                have hcz31_11 : wc.cell? ⟨gb142, 11, none⟩ = some (.bool a0_11) := (blk_cell BK142.out 11).trans rfl
                have hcz31_12 : wc.cell? ⟨gb142, 12, none⟩ = some (.bool a0_12) := (blk_cell BK142.out 12).trans rfl
                have hcz31_13 : wc.cell? ⟨gb142, 13, none⟩ = some (.bool a0_13) := (blk_cell BK142.out 13).trans rfl
                have hcz31_14 : wc.cell? ⟨gb142, 14, none⟩ = some (.bool a0_14) := (blk_cell BK142.out 14).trans rfl
                have hcz31_15 : wc.cell? ⟨gb142, 15, none⟩ = some (.bool a0_15) := (blk_cell BK142.out 15).trans rfl
                have hcz31_16 : wc.cell? ⟨gb142, 16, none⟩ = some (.int .i64 a0_16) := (blk_cell BK142.out 16).trans rfl
                have hfz31_0 := blk_frozen BK142.out 0
                have hfz31_1 := blk_frozen BK142.out 1
                have hfz31_2 := blk_frozen BK142.out 2
                have hfz31_3 := blk_frozen BK142.out 3
                have hfz31_4 := blk_frozen BK142.out 4
                have hfz31_5 := blk_frozen BK142.out 5
                have hfz31_6 := blk_frozen BK142.out 6
                have hfz31_7 := blk_frozen BK142.out 7
                have hfz31_8 := blk_frozen BK142.out 8
                have hfz31_9 := blk_frozen BK142.out 9
                have hfz31_10 := blk_frozen BK142.out 10
                have hfz31_11 := blk_frozen BK142.out 11
                have hfz31_12 := blk_frozen BK142.out 12
                have hfz31_13 := blk_frozen BK142.out 13
                have hfz31_14 := blk_frozen BK142.out 14
                have hfz31_15 := blk_frozen BK142.out 15
                have hfz31_16 := blk_frozen BK142.out 16
                go_wp2
                go_meet
                case rel => exact ⟨_, (false), (by first | rfl | (simp; done) | (simp [*]; done)), H', ⟨by have := HJ4.out; first | omega | exact Nat.le_refl _⟩, ⟨by (with_reducible repeat (first | refine blk_drewN ?_ _ | refine blk_drew ?_ | refine blk_alloc ?_ _)); exact BK142.out⟩, ⟨by (with_reducible repeat (first | refine blk_drewN ?_ _ | refine blk_drew ?_ | refine blk_alloc ?_ _)); exact BK143.out⟩, ⟨by repeat (first | (with_reducible first | exact HB.out | apply below_alloc | apply pw_below_drewN | apply below_drew1 | refine below_set ?_ GE142.out | refine below_set ?_ GE143.out) | exact HB.out)⟩⟩
            case rest =>
              clear HC24
              try clear c1
              try clear c2
              try clear p2
              try clear c3
              try clear c3b0
              try clear c3b1
              try clear c4
              try clear c8
              try clear c11
              try clear c12
              try clear c14
              try clear c17
              try clear c19
              try clear c21
              try clear c22
              try clear c25
              try clear c27
              try clear c30
              try clear hcz11_0
              try clear hcz11_1
              try clear hcz11_10
              try clear hcz11_11
              try clear hcz11_12
              try clear hcz11_13
              try clear hcz11_14
              try clear hcz11_15
              try clear hcz11_16
              try clear hcz11_2
              try clear hcz11_3
              try clear hcz11_4
              try clear hcz11_5
              try clear hcz11_6
              try clear hcz11_7
              try clear hcz11_8
              try clear hcz11_9
              try clear hcz15_0
              try clear hcz15_1
              try clear hcz15_10
              try clear hcz15_11
              try clear hcz15_12
              try clear hcz15_13
              try clear hcz15_14
              try clear hcz15_15
              try clear hcz15_16
              try clear hcz15_2
              try clear hcz15_3
              try clear hcz15_4
              try clear hcz15_5
              try clear hcz15_6
              try clear hcz15_7
              try clear hcz15_8
              try clear hcz15_9
              try clear hcz18_0
              try clear hcz18_1
              try clear hcz18_10
              try clear hcz18_11
              try clear hcz18_12
              try clear hcz18_13
              try clear hcz18_14
              try clear hcz18_15
              try clear hcz18_16
              try clear hcz18_2
              try clear hcz18_3
              try clear hcz18_4
              try clear hcz18_5
              try clear hcz18_6
              try clear hcz18_7
              try clear hcz18_8
              try clear hcz18_9
              try clear hcz23_0
              try clear hcz23_1
              try clear hcz23_2
              try clear hcz23_3
              try clear hcz23_4
              try clear hcz28_0
              try clear hcz28_1
              try clear hcz28_10
              try clear hcz28_11
              try clear hcz28_12
              try clear hcz28_13
              try clear hcz28_14
              try clear hcz28_15
              try clear hcz28_16
              try clear hcz28_2
              try clear hcz28_3
              try clear hcz28_4
              try clear hcz28_5
              try clear hcz28_6
              try clear hcz28_7
              try clear hcz28_8
              try clear hcz28_9
              try clear hcz31_0
              try clear hcz31_1
              try clear hcz31_10
              try clear hcz31_11
              try clear hcz31_12
              try clear hcz31_13
              try clear hcz31_14
              try clear hcz31_15
              try clear hcz31_16
              try clear hcz31_2
              try clear hcz31_3
              try clear hcz31_4
              try clear hcz31_5
              try clear hcz31_6
              try clear hcz31_7
              try clear hcz31_8
              try clear hcz31_9
              try clear hcz9_0
              try clear hcz9_1
              try clear hcz9_10
              try clear hcz9_11
              try clear hcz9_12
              try clear hcz9_13
              try clear hcz9_14
              try clear hcz9_15
              try clear hcz9_16
              try clear hcz9_2
              try clear hcz9_3
              try clear hcz9_4
              try clear hcz9_5
              try clear hcz9_6
              try clear hcz9_7
              try clear hcz9_8
              try clear hcz9_9
              try clear hfz11_0
              try clear hfz11_1
              try clear hfz11_10
              try clear hfz11_11
              try clear hfz11_12
              try clear hfz11_13
              try clear hfz11_14
              try clear hfz11_15
              try clear hfz11_16
              try clear hfz11_2
              try clear hfz11_3
              try clear hfz11_4
              try clear hfz11_5
              try clear hfz11_6
              try clear hfz11_7
              try clear hfz11_8
              try clear hfz11_9
              try clear hfz15_0
              try clear hfz15_1
              try clear hfz15_10
              try clear hfz15_11
              try clear hfz15_12
              try clear hfz15_13
              try clear hfz15_14
              try clear hfz15_15
              try clear hfz15_16
              try clear hfz15_2
              try clear hfz15_3
              try clear hfz15_4
              try clear hfz15_5
              try clear hfz15_6
              try clear hfz15_7
              try clear hfz15_8
              try clear hfz15_9
              try clear hfz18_0
              try clear hfz18_1
              try clear hfz18_10
              try clear hfz18_11
              try clear hfz18_12
              try clear hfz18_13
              try clear hfz18_14
              try clear hfz18_15
              try clear hfz18_16
              try clear hfz18_2
              try clear hfz18_3
              try clear hfz18_4
              try clear hfz18_5
              try clear hfz18_6
              try clear hfz18_7
              try clear hfz18_8
              try clear hfz18_9
              try clear hfz23_0
              try clear hfz23_1
              try clear hfz23_2
              try clear hfz23_3
              try clear hfz23_4
              try clear hfz28_0
              try clear hfz28_1
              try clear hfz28_10
              try clear hfz28_11
              try clear hfz28_12
              try clear hfz28_13
              try clear hfz28_14
              try clear hfz28_15
              try clear hfz28_16
              try clear hfz28_2
              try clear hfz28_3
              try clear hfz28_4
              try clear hfz28_5
              try clear hfz28_6
              try clear hfz28_7
              try clear hfz28_8
              try clear hfz28_9
              try clear hfz31_0
              try clear hfz31_1
              try clear hfz31_10
              try clear hfz31_11
              try clear hfz31_12
              try clear hfz31_13
              try clear hfz31_14
              try clear hfz31_15
              try clear hfz31_16
              try clear hfz31_2
              try clear hfz31_3
              try clear hfz31_4
              try clear hfz31_5
              try clear hfz31_6
              try clear hfz31_7
              try clear hfz31_8
              try clear hfz31_9
              try clear hfz9_0
              try clear hfz9_1
              try clear hfz9_10
              try clear hfz9_11
              try clear hfz9_12
              try clear hfz9_13
              try clear hfz9_14
              try clear hfz9_15
              try clear hfz9_16
              try clear hfz9_2
              try clear hfz9_3
              try clear hfz9_4
              try clear hfz9_5
              try clear hfz9_6
              try clear hfz9_7
              try clear hfz9_8
              try clear hfz9_9
              try clear p2
              obtain ⟨kq, x33_23, rfl, HA, HJ23, BK142, BK143, HB⟩ := hcut
              cases kq with
              | zero => exact absurd HA.out (by simp [estoversref26_Plan.j1])
              | succ kj23 =>
                have H := HA.out
                clear HA
                simp only [estoversref26_Plan.j1] at H
                by_cases c32 : x33_23 = true
                · subst c32
                  have H1 : ((estoversref26_refuse.f 14).bind fun bt159 => (some (bt159.1, bt159.2.1, bt159.2.2.1, bt159.2.2.2.1, bt159.2.2.2.2.1, bt159.2.2.2.2.2))) = some (r1, r2, r3, r4, r5, r6) := by rw [if_pos rfl] at H; exact H
                  clear H
                  have H := H1
                  clear H1
                  replace H := Option.bind_eq_some_iff.mp H
                  obtain ⟨⟨t159, t160, t161, t162, t163, t164⟩, A330, H⟩ := H
                  replace H : (some (t159, t160, t161, t162, t163, t164)) = some (r1, r2, r3, r4, r5, r6) := H
                  have A33 := Aside0.mk A330
                  clear A330
                  simp only [Option.some.injEq, Prod.mk.injEq] at H
                  obtain ⟨rfl, rfl, rfl, rfl, rfl, rfl⟩ := H
                  go_wp2_with (first | ((with_reducible refine gate_callee (f := 21) rfl ?_); refine goesL_ (some 34) rfl rfl Try.func21 (by kernel_rfl) rfl #[.int .i64 14] rfl (by (try simp only [List.map_toArray, List.map_cons, List.map_nil]); first | done | rfl | (simp only [List.length_drop, List.length_take]; rfl)) ?_; (with_reducible refine (estoversref26_refuse.calls 14 t159 t160 t161 t162 t163 t164 _ A33.out).mono ?_); rintro e w34 ⟨rfl, hb⟩; refine ⟨_, rfl, ?_⟩; have n0_ := Aside0.mk (blk_below (g := gb142) (o := .cells #[.bool a0_0, .bool true, .int .i64 a0_2, .bool a0_3, .bool a0_4, .bool a0_5, .bool a0_6, .int .i64 a0_7, .bool a0_8, .bool a0_9, .bool a0_10, .bool a0_11, .bool a0_12, .bool a0_13, .bool a0_14, .bool a0_15, .int .i64 a0_16] 23 (0, 0)) (by (with_reducible repeat (first | refine blk_drewN ?_ _ | refine blk_drew ?_ | refine blk_alloc ?_ _)); exact BK142.out) hb); have n1_ := Aside0.mk (blk_below (g := gb143) (o := .cells #[.int .i64 0, .int .i64 0, .int .i64 0, .int .i64 0, .int .i64 0] 28 (0, 0)) (by (with_reducible repeat (first | refine blk_drewN ?_ _ | refine blk_drew ?_ | refine blk_alloc ?_ _)); exact BK143.out) hb); have n2_ := Aside0.mk (below_step (by repeat (first | (with_reducible first | exact HB.out | apply below_alloc | apply pw_below_drewN | apply below_drew1 | refine below_set ?_ GE142.out | refine below_set ?_ GE143.out) | exact HB.out)) hb); clear BK142; clear BK143; clear HB; have BK142 := n0_; have BK143 := n1_; have HB := n2_; clear n0_ n1_ n2_; (try clear hb); (try clear hb2); (try clear hk); (try clear hi); have hnb35 := NB143_142.out; have hnc35 := NB142_143.out; have hcz36_0 : w34.cell? ⟨gb143, 0, none⟩ = some (.int .i64 0) := (blk_cell BK143.out 0).trans rfl; have hcz36_1 : w34.cell? ⟨gb143, 1, none⟩ = some (.int .i64 0) := (blk_cell BK143.out 1).trans rfl; have hcz36_2 : w34.cell? ⟨gb143, 2, none⟩ = some (.int .i64 0) := (blk_cell BK143.out 2).trans rfl; have hcz36_3 : w34.cell? ⟨gb143, 3, none⟩ = some (.int .i64 0) := (blk_cell BK143.out 3).trans rfl; have hcz36_4 : w34.cell? ⟨gb143, 4, none⟩ = some (.int .i64 0) := (blk_cell BK143.out 4).trans rfl; have hfz36_0 := blk_frozen BK143.out 0; have hfz36_1 := blk_frozen BK143.out 1; have hfz36_2 := blk_frozen BK143.out 2; have hfz36_3 := blk_frozen BK143.out 3; have hfz36_4 := blk_frozen BK143.out 4))
                  refine bodyPost_ret (results_ct rfl _ _ gb143 28 #[.int .i64 t159, .int .i64 t160, .int .i64 t161, .int .i64 t162, .int .i64 t163] (0, 0) _ rfl (by (with_reducible repeat (first | refine blk_drewN ?_ _ | refine blk_drew ?_ | refine blk_alloc ?_ _)); refine blk_put (cs := #[.int .i64 t159, .int .i64 t160, .int .i64 t161, .int .i64 t162, .int .i64 0]) ?_ 4 _ rfl; (with_reducible repeat (first | refine blk_drewN ?_ _ | refine blk_drew ?_ | refine blk_alloc ?_ _)); refine blk_put (cs := #[.int .i64 t159, .int .i64 t160, .int .i64 t161, .int .i64 0, .int .i64 0]) ?_ 3 _ rfl; (with_reducible repeat (first | refine blk_drewN ?_ _ | refine blk_drew ?_ | refine blk_alloc ?_ _)); refine blk_put (cs := #[.int .i64 t159, .int .i64 t160, .int .i64 0, .int .i64 0, .int .i64 0]) ?_ 2 _ rfl; (with_reducible repeat (first | refine blk_drewN ?_ _ | refine blk_drew ?_ | refine blk_alloc ?_ _)); refine blk_put (cs := #[.int .i64 t159, .int .i64 0, .int .i64 0, .int .i64 0, .int .i64 0]) ?_ 1 _ rfl; (with_reducible repeat (first | refine blk_drewN ?_ _ | refine blk_drew ?_ | refine blk_alloc ?_ _)); refine blk_put (cs := #[.int .i64 0, .int .i64 0, .int .i64 0, .int .i64 0, .int .i64 0]) ?_ 0 _ rfl; (with_reducible repeat (first | refine blk_drewN ?_ _ | refine blk_drew ?_ | refine blk_alloc ?_ _)); exact BK143.out) Try.underlying28 rfl (by kernel_rfl)) rfl ?_
                  exact ⟨by first | rfl | (simp [errW_none, errW_some] <;> rfl) | (simp [*, errW_none, errW_some] <;> rfl), by repeat (first | (with_reducible first | exact HB.out | apply below_alloc | apply pw_below_drewN | apply below_drew1 | refine below_set ?_ GE142.out | refine below_set ?_ GE143.out) | exact HB.out)⟩
                · replace c32 := Bool.eq_false_iff.mpr c32
                  subst c32
                  have H1 : (if a0_7 = 1 then (if a0_0 = true then (estoversref26_Plan.j2 kj23 a0_8 a0_0 true a0_2 a0_3 a0_4 a0_5 a0_6 a0_7 a0_8 a0_9 a0_10 a0_11 a0_12 a0_13 a0_14 a0_15 a0_16) else (estoversref26_Plan.j2 kj23 true a0_0 true a0_2 a0_3 a0_4 a0_5 a0_6 a0_7 a0_8 a0_9 a0_10 a0_11 a0_12 a0_13 a0_14 a0_15 a0_16)) else (estoversref26_Plan.j2 kj23 false a0_0 true a0_2 a0_3 a0_4 a0_5 a0_6 a0_7 a0_8 a0_9 a0_10 a0_11 a0_12 a0_13 a0_14 a0_15 a0_16)) = some (r1, r2, r3, r4, r5, r6) := by rw [if_neg (show ¬ (false = true) by decide)] at H; exact H
                  clear H
                  have H := H1
                  clear H1
                  have HC37 := Aside0.mk H
                  clear H
                  go_upto_region 10 with (fail)
                  go_cut [48] (fun v48 wc => ∃ (kq : Nat) (x48_36 : Bool), v48 = .bool x48_36 ∧ Aside0 (estoversref26_Plan.j2 kq x48_36 a0_0 true a0_2 a0_3 a0_4 a0_5 a0_6 a0_7 a0_8 a0_9 a0_10 a0_11 a0_12 a0_13 a0_14 a0_15 a0_16 = some (r1, r2, r3, r4, r5, r6)) ∧ Aside0 (kq ≤ kj23) ∧ Aside0 (wc.heap[gb142]? = some (.cells #[.bool a0_0, .bool true, .int .i64 a0_2, .bool a0_3, .bool a0_4, .bool a0_5, .bool a0_6, .int .i64 a0_7, .bool a0_8, .bool a0_9, .bool a0_10, .bool a0_11, .bool a0_12, .bool a0_13, .bool a0_14, .bool a0_15, .int .i64 a0_16] 23 (0, 0))) ∧ Aside0 (wc.heap[gb143]? = some (.cells #[.int .i64 0, .int .i64 0, .int .i64 0, .int .i64 0, .int .i64 0] 28 (0, 0))) ∧ Aside0 (Below w.heap.size w wc))
                  case first =>
                    have H := HC37.out
                    clear HC37
                    by_cases c38 : a0_7 = 1
                    · rw [if_pos c38] at H
                      have c38b0 : (a0_7 == 1) = true := beq_iff_eq.mpr c38
                      have c38b1 : (a0_7 != 1) = false := bne_eq_false_iff_eq.mpr c38
                      clear c38
                      (first | rw [c38b0] | (simp only [i64_w, i32_w]; rw [c38b0]) | skip)
                      by_cases c39 : a0_0 = true
                      · subst c39
                        have H1 : (estoversref26_Plan.j2 kj23 a0_8 true true a0_2 a0_3 a0_4 a0_5 a0_6 a0_7 a0_8 a0_9 a0_10 a0_11 a0_12 a0_13 a0_14 a0_15 a0_16) = some (r1, r2, r3, r4, r5, r6) := by rw [if_pos rfl] at H; exact H
                        clear H
                        have H := H1
                        clear H1
                        have H' := Aside0.mk H
                        clear H
                        have hnb40 := NB142_143.out
                        have hnc40 := NB143_142.out
                        have hcz41_0 : wc.cell? ⟨gb142, 0, none⟩ = some (.bool true) := (blk_cell BK142.out 0).trans rfl
                        have hcz41_1 : wc.cell? ⟨gb142, 1, none⟩ = some (.bool true) := (blk_cell BK142.out 1).trans rfl
                        have hcz41_2 : wc.cell? ⟨gb142, 2, none⟩ = some (.int .i64 a0_2) := (blk_cell BK142.out 2).trans rfl
                        have hcz41_3 : wc.cell? ⟨gb142, 3, none⟩ = some (.bool a0_3) := (blk_cell BK142.out 3).trans rfl
                        have hcz41_4 : wc.cell? ⟨gb142, 4, none⟩ = some (.bool a0_4) := (blk_cell BK142.out 4).trans rfl
                        have hcz41_5 : wc.cell? ⟨gb142, 5, none⟩ = some (.bool a0_5) := (blk_cell BK142.out 5).trans rfl
                        have hcz41_6 : wc.cell? ⟨gb142, 6, none⟩ = some (.bool a0_6) := (blk_cell BK142.out 6).trans rfl
                        have hcz41_7 : wc.cell? ⟨gb142, 7, none⟩ = some (.int .i64 a0_7) := (blk_cell BK142.out 7).trans rfl
                        have hcz41_8 : wc.cell? ⟨gb142, 8, none⟩ = some (.bool a0_8) := (blk_cell BK142.out 8).trans rfl
                        have hcz41_9 : wc.cell? ⟨gb142, 9, none⟩ = some (.bool a0_9) := (blk_cell BK142.out 9).trans rfl
                        have hcz41_10 : wc.cell? ⟨gb142, 10, none⟩ = some (.bool a0_10) := (blk_cell BK142.out 10).trans rfl
                        have hcz41_11 : wc.cell? ⟨gb142, 11, none⟩ = some (.bool a0_11) := (blk_cell BK142.out 11).trans rfl
                        have hcz41_12 : wc.cell? ⟨gb142, 12, none⟩ = some (.bool a0_12) := (blk_cell BK142.out 12).trans rfl
                        have hcz41_13 : wc.cell? ⟨gb142, 13, none⟩ = some (.bool a0_13) := (blk_cell BK142.out 13).trans rfl
                        have hcz41_14 : wc.cell? ⟨gb142, 14, none⟩ = some (.bool a0_14) := (blk_cell BK142.out 14).trans rfl
                        have hcz41_15 : wc.cell? ⟨gb142, 15, none⟩ = some (.bool a0_15) := (blk_cell BK142.out 15).trans rfl
                        have hcz41_16 : wc.cell? ⟨gb142, 16, none⟩ = some (.int .i64 a0_16) := (blk_cell BK142.out 16).trans rfl
                        have hfz41_0 := blk_frozen BK142.out 0
                        have hfz41_1 := blk_frozen BK142.out 1
                        have hfz41_2 := blk_frozen BK142.out 2
                        have hfz41_3 := blk_frozen BK142.out 3
                        have hfz41_4 := blk_frozen BK142.out 4
                        have hfz41_5 := blk_frozen BK142.out 5
                        have hfz41_6 := blk_frozen BK142.out 6
                        have hfz41_7 := blk_frozen BK142.out 7
                        have hfz41_8 := blk_frozen BK142.out 8
                        have hfz41_9 := blk_frozen BK142.out 9
                        have hfz41_10 := blk_frozen BK142.out 10
                        have hfz41_11 := blk_frozen BK142.out 11
                        have hfz41_12 := blk_frozen BK142.out 12
                        have hfz41_13 := blk_frozen BK142.out 13
                        have hfz41_14 := blk_frozen BK142.out 14
                        have hfz41_15 := blk_frozen BK142.out 15
                        have hfz41_16 := blk_frozen BK142.out 16
                        go_wp2
                        go_meet
                        case rel => exact ⟨_, (a0_8), (by first | rfl | (simp; done) | (simp [*]; done)), H', ⟨by have := HJ4.out; have := HJ23.out; first | omega | exact Nat.le_refl _⟩, ⟨by (with_reducible repeat (first | refine blk_drewN ?_ _ | refine blk_drew ?_ | refine blk_alloc ?_ _)); exact BK142.out⟩, ⟨by (with_reducible repeat (first | refine blk_drewN ?_ _ | refine blk_drew ?_ | refine blk_alloc ?_ _)); exact BK143.out⟩, ⟨by repeat (first | (with_reducible first | exact HB.out | apply below_alloc | apply pw_below_drewN | apply below_drew1 | refine below_set ?_ GE142.out | refine below_set ?_ GE143.out) | exact HB.out)⟩⟩
                      · replace c39 := Bool.eq_false_iff.mpr c39
                        subst c39
                        have H1 : (estoversref26_Plan.j2 kj23 true false true a0_2 a0_3 a0_4 a0_5 a0_6 a0_7 a0_8 a0_9 a0_10 a0_11 a0_12 a0_13 a0_14 a0_15 a0_16) = some (r1, r2, r3, r4, r5, r6) := by rw [if_neg (show ¬ (false = true) by decide)] at H; exact H
                        clear H
                        have H := H1
                        clear H1
                        have H' := Aside0.mk H
                        clear H
                        have hnb42 := NB142_143.out
                        have hnc42 := NB143_142.out
                        have hcz43_0 : wc.cell? ⟨gb142, 0, none⟩ = some (.bool false) := (blk_cell BK142.out 0).trans rfl
                        have hcz43_1 : wc.cell? ⟨gb142, 1, none⟩ = some (.bool true) := (blk_cell BK142.out 1).trans rfl
                        have hcz43_2 : wc.cell? ⟨gb142, 2, none⟩ = some (.int .i64 a0_2) := (blk_cell BK142.out 2).trans rfl
                        have hcz43_3 : wc.cell? ⟨gb142, 3, none⟩ = some (.bool a0_3) := (blk_cell BK142.out 3).trans rfl
                        have hcz43_4 : wc.cell? ⟨gb142, 4, none⟩ = some (.bool a0_4) := (blk_cell BK142.out 4).trans rfl
                        have hcz43_5 : wc.cell? ⟨gb142, 5, none⟩ = some (.bool a0_5) := (blk_cell BK142.out 5).trans rfl
                        have hcz43_6 : wc.cell? ⟨gb142, 6, none⟩ = some (.bool a0_6) := (blk_cell BK142.out 6).trans rfl
                        have hcz43_7 : wc.cell? ⟨gb142, 7, none⟩ = some (.int .i64 a0_7) := (blk_cell BK142.out 7).trans rfl
                        have hcz43_8 : wc.cell? ⟨gb142, 8, none⟩ = some (.bool a0_8) := (blk_cell BK142.out 8).trans rfl
                        have hcz43_9 : wc.cell? ⟨gb142, 9, none⟩ = some (.bool a0_9) := (blk_cell BK142.out 9).trans rfl
                        have hcz43_10 : wc.cell? ⟨gb142, 10, none⟩ = some (.bool a0_10) := (blk_cell BK142.out 10).trans rfl
                        have hcz43_11 : wc.cell? ⟨gb142, 11, none⟩ = some (.bool a0_11) := (blk_cell BK142.out 11).trans rfl
                        have hcz43_12 : wc.cell? ⟨gb142, 12, none⟩ = some (.bool a0_12) := (blk_cell BK142.out 12).trans rfl
                        have hcz43_13 : wc.cell? ⟨gb142, 13, none⟩ = some (.bool a0_13) := (blk_cell BK142.out 13).trans rfl
                        have hcz43_14 : wc.cell? ⟨gb142, 14, none⟩ = some (.bool a0_14) := (blk_cell BK142.out 14).trans rfl
                        have hcz43_15 : wc.cell? ⟨gb142, 15, none⟩ = some (.bool a0_15) := (blk_cell BK142.out 15).trans rfl
                        have hcz43_16 : wc.cell? ⟨gb142, 16, none⟩ = some (.int .i64 a0_16) := (blk_cell BK142.out 16).trans rfl
                        have hfz43_0 := blk_frozen BK142.out 0
                        have hfz43_1 := blk_frozen BK142.out 1
                        have hfz43_2 := blk_frozen BK142.out 2
                        have hfz43_3 := blk_frozen BK142.out 3
                        have hfz43_4 := blk_frozen BK142.out 4
                        have hfz43_5 := blk_frozen BK142.out 5
                        have hfz43_6 := blk_frozen BK142.out 6
                        have hfz43_7 := blk_frozen BK142.out 7
                        have hfz43_8 := blk_frozen BK142.out 8
                        have hfz43_9 := blk_frozen BK142.out 9
                        have hfz43_10 := blk_frozen BK142.out 10
                        have hfz43_11 := blk_frozen BK142.out 11
                        have hfz43_12 := blk_frozen BK142.out 12
                        have hfz43_13 := blk_frozen BK142.out 13
                        have hfz43_14 := blk_frozen BK142.out 14
                        have hfz43_15 := blk_frozen BK142.out 15
                        have hfz43_16 := blk_frozen BK142.out 16
                        go_wp2
                        go_meet
                        case rel => exact ⟨_, (true), (by first | rfl | (simp; done) | (simp [*]; done)), H', ⟨by have := HJ4.out; have := HJ23.out; first | omega | exact Nat.le_refl _⟩, ⟨by (with_reducible repeat (first | refine blk_drewN ?_ _ | refine blk_drew ?_ | refine blk_alloc ?_ _)); exact BK142.out⟩, ⟨by (with_reducible repeat (first | refine blk_drewN ?_ _ | refine blk_drew ?_ | refine blk_alloc ?_ _)); exact BK143.out⟩, ⟨by repeat (first | (with_reducible first | exact HB.out | apply below_alloc | apply pw_below_drewN | apply below_drew1 | refine below_set ?_ GE142.out | refine below_set ?_ GE143.out) | exact HB.out)⟩⟩
                    · rw [if_neg c38] at H
                      have c38b0 : (a0_7 == 1) = false := beq_eq_false_iff_ne.mpr c38
                      have c38b1 : (a0_7 != 1) = true := bne_iff_ne.mpr c38
                      (first | rw [c38b0] | (simp only [i64_w, i32_w]; rw [c38b0]) | skip)
                      have H' := Aside0.mk H
                      clear H
                      have hnb44 := NB142_143.out
                      have hnc44 := NB143_142.out
                      have hcz45_0 : wc.cell? ⟨gb142, 0, none⟩ = some (.bool a0_0) := (blk_cell BK142.out 0).trans rfl
                      have hcz45_1 : wc.cell? ⟨gb142, 1, none⟩ = some (.bool true) := (blk_cell BK142.out 1).trans rfl
                      have hcz45_2 : wc.cell? ⟨gb142, 2, none⟩ = some (.int .i64 a0_2) := (blk_cell BK142.out 2).trans rfl
                      have hcz45_3 : wc.cell? ⟨gb142, 3, none⟩ = some (.bool a0_3) := (blk_cell BK142.out 3).trans rfl
                      have hcz45_4 : wc.cell? ⟨gb142, 4, none⟩ = some (.bool a0_4) := (blk_cell BK142.out 4).trans rfl
                      have hcz45_5 : wc.cell? ⟨gb142, 5, none⟩ = some (.bool a0_5) := (blk_cell BK142.out 5).trans rfl
                      have hcz45_6 : wc.cell? ⟨gb142, 6, none⟩ = some (.bool a0_6) := (blk_cell BK142.out 6).trans rfl
                      have hcz45_7 : wc.cell? ⟨gb142, 7, none⟩ = some (.int .i64 a0_7) := (blk_cell BK142.out 7).trans rfl
                      have hcz45_8 : wc.cell? ⟨gb142, 8, none⟩ = some (.bool a0_8) := (blk_cell BK142.out 8).trans rfl
                      have hcz45_9 : wc.cell? ⟨gb142, 9, none⟩ = some (.bool a0_9) := (blk_cell BK142.out 9).trans rfl
                      have hcz45_10 : wc.cell? ⟨gb142, 10, none⟩ = some (.bool a0_10) := (blk_cell BK142.out 10).trans rfl
                      have hcz45_11 : wc.cell? ⟨gb142, 11, none⟩ = some (.bool a0_11) := (blk_cell BK142.out 11).trans rfl
                      have hcz45_12 : wc.cell? ⟨gb142, 12, none⟩ = some (.bool a0_12) := (blk_cell BK142.out 12).trans rfl
                      have hcz45_13 : wc.cell? ⟨gb142, 13, none⟩ = some (.bool a0_13) := (blk_cell BK142.out 13).trans rfl
                      have hcz45_14 : wc.cell? ⟨gb142, 14, none⟩ = some (.bool a0_14) := (blk_cell BK142.out 14).trans rfl
                      have hcz45_15 : wc.cell? ⟨gb142, 15, none⟩ = some (.bool a0_15) := (blk_cell BK142.out 15).trans rfl
                      have hcz45_16 : wc.cell? ⟨gb142, 16, none⟩ = some (.int .i64 a0_16) := (blk_cell BK142.out 16).trans rfl
                      have hfz45_0 := blk_frozen BK142.out 0
                      have hfz45_1 := blk_frozen BK142.out 1
                      have hfz45_2 := blk_frozen BK142.out 2
                      have hfz45_3 := blk_frozen BK142.out 3
                      have hfz45_4 := blk_frozen BK142.out 4
                      have hfz45_5 := blk_frozen BK142.out 5
                      have hfz45_6 := blk_frozen BK142.out 6
                      have hfz45_7 := blk_frozen BK142.out 7
                      have hfz45_8 := blk_frozen BK142.out 8
                      have hfz45_9 := blk_frozen BK142.out 9
                      have hfz45_10 := blk_frozen BK142.out 10
                      have hfz45_11 := blk_frozen BK142.out 11
                      have hfz45_12 := blk_frozen BK142.out 12
                      have hfz45_13 := blk_frozen BK142.out 13
                      have hfz45_14 := blk_frozen BK142.out 14
                      have hfz45_15 := blk_frozen BK142.out 15
                      have hfz45_16 := blk_frozen BK142.out 16
                      go_wp2
                      go_meet
                      case rel => exact ⟨_, (false), (by first | rfl | (simp; done) | (simp [*]; done)), H', ⟨by have := HJ4.out; have := HJ23.out; first | omega | exact Nat.le_refl _⟩, ⟨by (with_reducible repeat (first | refine blk_drewN ?_ _ | refine blk_drew ?_ | refine blk_alloc ?_ _)); exact BK142.out⟩, ⟨by (with_reducible repeat (first | refine blk_drewN ?_ _ | refine blk_drew ?_ | refine blk_alloc ?_ _)); exact BK143.out⟩, ⟨by repeat (first | (with_reducible first | exact HB.out | apply below_alloc | apply pw_below_drewN | apply below_drew1 | refine below_set ?_ GE142.out | refine below_set ?_ GE143.out) | exact HB.out)⟩⟩
                  case rest =>
                    clear HC37
                    try clear c1
                    try clear c2
                    try clear p2
                    try clear c3
                    try clear c3b0
                    try clear c3b1
                    try clear c4
                    try clear c8
                    try clear c11
                    try clear c12
                    try clear c14
                    try clear c17
                    try clear c19
                    try clear c21
                    try clear c22
                    try clear c25
                    try clear c27
                    try clear c30
                    try clear c32
                    try clear c35
                    try clear c38
                    try clear c38b0
                    try clear c38b1
                    try clear c39
                    try clear c40
                    try clear c42
                    try clear c44
                    try clear hcz11_0
                    try clear hcz11_1
                    try clear hcz11_10
                    try clear hcz11_11
                    try clear hcz11_12
                    try clear hcz11_13
                    try clear hcz11_14
                    try clear hcz11_15
                    try clear hcz11_16
                    try clear hcz11_2
                    try clear hcz11_3
                    try clear hcz11_4
                    try clear hcz11_5
                    try clear hcz11_6
                    try clear hcz11_7
                    try clear hcz11_8
                    try clear hcz11_9
                    try clear hcz15_0
                    try clear hcz15_1
                    try clear hcz15_10
                    try clear hcz15_11
                    try clear hcz15_12
                    try clear hcz15_13
                    try clear hcz15_14
                    try clear hcz15_15
                    try clear hcz15_16
                    try clear hcz15_2
                    try clear hcz15_3
                    try clear hcz15_4
                    try clear hcz15_5
                    try clear hcz15_6
                    try clear hcz15_7
                    try clear hcz15_8
                    try clear hcz15_9
                    try clear hcz18_0
                    try clear hcz18_1
                    try clear hcz18_10
                    try clear hcz18_11
                    try clear hcz18_12
                    try clear hcz18_13
                    try clear hcz18_14
                    try clear hcz18_15
                    try clear hcz18_16
                    try clear hcz18_2
                    try clear hcz18_3
                    try clear hcz18_4
                    try clear hcz18_5
                    try clear hcz18_6
                    try clear hcz18_7
                    try clear hcz18_8
                    try clear hcz18_9
                    try clear hcz23_0
                    try clear hcz23_1
                    try clear hcz23_2
                    try clear hcz23_3
                    try clear hcz23_4
                    try clear hcz28_0
                    try clear hcz28_1
                    try clear hcz28_10
                    try clear hcz28_11
                    try clear hcz28_12
                    try clear hcz28_13
                    try clear hcz28_14
                    try clear hcz28_15
                    try clear hcz28_16
                    try clear hcz28_2
                    try clear hcz28_3
                    try clear hcz28_4
                    try clear hcz28_5
                    try clear hcz28_6
                    try clear hcz28_7
                    try clear hcz28_8
                    try clear hcz28_9
                    try clear hcz31_0
                    try clear hcz31_1
                    try clear hcz31_10
                    try clear hcz31_11
                    try clear hcz31_12
                    try clear hcz31_13
                    try clear hcz31_14
                    try clear hcz31_15
                    try clear hcz31_16
                    try clear hcz31_2
                    try clear hcz31_3
                    try clear hcz31_4
                    try clear hcz31_5
                    try clear hcz31_6
                    try clear hcz31_7
                    try clear hcz31_8
                    try clear hcz31_9
                    try clear hcz36_0
                    try clear hcz36_1
                    try clear hcz36_2
                    try clear hcz36_3
                    try clear hcz36_4
                    try clear hcz41_0
                    try clear hcz41_1
                    try clear hcz41_10
                    try clear hcz41_11
                    try clear hcz41_12
                    try clear hcz41_13
                    try clear hcz41_14
                    try clear hcz41_15
                    try clear hcz41_16
                    try clear hcz41_2
                    try clear hcz41_3
                    try clear hcz41_4
                    try clear hcz41_5
                    try clear hcz41_6
                    try clear hcz41_7
                    try clear hcz41_8
                    try clear hcz41_9
                    try clear hcz43_0
                    try clear hcz43_1
                    try clear hcz43_10
                    try clear hcz43_11
                    try clear hcz43_12
                    try clear hcz43_13
                    try clear hcz43_14
                    try clear hcz43_15
                    try clear hcz43_16
                    try clear hcz43_2
                    try clear hcz43_3
                    try clear hcz43_4
                    try clear hcz43_5
                    try clear hcz43_6
                    try clear hcz43_7
                    try clear hcz43_8
                    try clear hcz43_9
                    try clear hcz45_0
                    try clear hcz45_1
                    try clear hcz45_10
                    try clear hcz45_11
                    try clear hcz45_12
                    try clear hcz45_13
                    try clear hcz45_14
                    try clear hcz45_15
                    try clear hcz45_16
                    try clear hcz45_2
                    try clear hcz45_3
                    try clear hcz45_4
                    try clear hcz45_5
                    try clear hcz45_6
                    try clear hcz45_7
                    try clear hcz45_8
                    try clear hcz45_9
                    try clear hcz9_0
                    try clear hcz9_1
                    try clear hcz9_10
                    try clear hcz9_11
                    try clear hcz9_12
                    try clear hcz9_13
                    try clear hcz9_14
                    try clear hcz9_15
                    try clear hcz9_16
                    try clear hcz9_2
                    try clear hcz9_3
                    try clear hcz9_4
                    try clear hcz9_5
                    try clear hcz9_6
                    try clear hcz9_7
                    try clear hcz9_8
                    try clear hcz9_9
                    try clear hfz11_0
                    try clear hfz11_1
                    try clear hfz11_10
                    try clear hfz11_11
                    try clear hfz11_12
                    try clear hfz11_13
                    try clear hfz11_14
                    try clear hfz11_15
                    try clear hfz11_16
                    try clear hfz11_2
                    try clear hfz11_3
                    try clear hfz11_4
                    try clear hfz11_5
                    try clear hfz11_6
                    try clear hfz11_7
                    try clear hfz11_8
                    try clear hfz11_9
                    try clear hfz15_0
                    try clear hfz15_1
                    try clear hfz15_10
                    try clear hfz15_11
                    try clear hfz15_12
                    try clear hfz15_13
                    try clear hfz15_14
                    try clear hfz15_15
                    try clear hfz15_16
                    try clear hfz15_2
                    try clear hfz15_3
                    try clear hfz15_4
                    try clear hfz15_5
                    try clear hfz15_6
                    try clear hfz15_7
                    try clear hfz15_8
                    try clear hfz15_9
                    try clear hfz18_0
                    try clear hfz18_1
                    try clear hfz18_10
                    try clear hfz18_11
                    try clear hfz18_12
                    try clear hfz18_13
                    try clear hfz18_14
                    try clear hfz18_15
                    try clear hfz18_16
                    try clear hfz18_2
                    try clear hfz18_3
                    try clear hfz18_4
                    try clear hfz18_5
                    try clear hfz18_6
                    try clear hfz18_7
                    try clear hfz18_8
                    try clear hfz18_9
                    try clear hfz23_0
                    try clear hfz23_1
                    try clear hfz23_2
                    try clear hfz23_3
                    try clear hfz23_4
                    try clear hfz28_0
                    try clear hfz28_1
                    try clear hfz28_10
                    try clear hfz28_11
                    try clear hfz28_12
                    try clear hfz28_13
                    try clear hfz28_14
                    try clear hfz28_15
                    try clear hfz28_16
                    try clear hfz28_2
                    try clear hfz28_3
                    try clear hfz28_4
                    try clear hfz28_5
                    try clear hfz28_6
                    try clear hfz28_7
                    try clear hfz28_8
                    try clear hfz28_9
                    try clear hfz31_0
                    try clear hfz31_1
                    try clear hfz31_10
                    try clear hfz31_11
                    try clear hfz31_12
                    try clear hfz31_13
                    try clear hfz31_14
                    try clear hfz31_15
                    try clear hfz31_16
                    try clear hfz31_2
                    try clear hfz31_3
                    try clear hfz31_4
                    try clear hfz31_5
                    try clear hfz31_6
                    try clear hfz31_7
                    try clear hfz31_8
                    try clear hfz31_9
                    try clear hfz36_0
                    try clear hfz36_1
                    try clear hfz36_2
                    try clear hfz36_3
                    try clear hfz36_4
                    try clear hfz41_0
                    try clear hfz41_1
                    try clear hfz41_10
                    try clear hfz41_11
                    try clear hfz41_12
                    try clear hfz41_13
                    try clear hfz41_14
                    try clear hfz41_15
                    try clear hfz41_16
                    try clear hfz41_2
                    try clear hfz41_3
                    try clear hfz41_4
                    try clear hfz41_5
                    try clear hfz41_6
                    try clear hfz41_7
                    try clear hfz41_8
                    try clear hfz41_9
                    try clear hfz43_0
                    try clear hfz43_1
                    try clear hfz43_10
                    try clear hfz43_11
                    try clear hfz43_12
                    try clear hfz43_13
                    try clear hfz43_14
                    try clear hfz43_15
                    try clear hfz43_16
                    try clear hfz43_2
                    try clear hfz43_3
                    try clear hfz43_4
                    try clear hfz43_5
                    try clear hfz43_6
                    try clear hfz43_7
                    try clear hfz43_8
                    try clear hfz43_9
                    try clear hfz45_0
                    try clear hfz45_1
                    try clear hfz45_10
                    try clear hfz45_11
                    try clear hfz45_12
                    try clear hfz45_13
                    try clear hfz45_14
                    try clear hfz45_15
                    try clear hfz45_16
                    try clear hfz45_2
                    try clear hfz45_3
                    try clear hfz45_4
                    try clear hfz45_5
                    try clear hfz45_6
                    try clear hfz45_7
                    try clear hfz45_8
                    try clear hfz45_9
                    try clear hfz9_0
                    try clear hfz9_1
                    try clear hfz9_10
                    try clear hfz9_11
                    try clear hfz9_12
                    try clear hfz9_13
                    try clear hfz9_14
                    try clear hfz9_15
                    try clear hfz9_16
                    try clear hfz9_2
                    try clear hfz9_3
                    try clear hfz9_4
                    try clear hfz9_5
                    try clear hfz9_6
                    try clear hfz9_7
                    try clear hfz9_8
                    try clear hfz9_9
                    try clear p2
                    obtain ⟨kq, x48_36, rfl, HA, HJ36, BK142, BK143, HB⟩ := hcut
                    cases kq with
                    | zero => exact absurd HA.out (by simp [estoversref26_Plan.j2])
                    | succ kj36 =>
                      have H := HA.out
                      clear HA
                      simp only [estoversref26_Plan.j2] at H
                      by_cases c46 : x48_36 = true
                      · subst c46
                        have H1 : ((estoversref26_plan.f 0 0 0).bind fun bt165 => (some (bt165.1, bt165.2.1, bt165.2.2.1, bt165.2.2.2.1, bt165.2.2.2.2.1, bt165.2.2.2.2.2))) = some (r1, r2, r3, r4, r5, r6) := by rw [if_pos rfl] at H; exact H
                        clear H
                        have H := H1
                        clear H1
                        replace H := Option.bind_eq_some_iff.mp H
                        obtain ⟨⟨t165, t166, t167, t168, t169, t170⟩, A470, H⟩ := H
                        replace H : (some (t165, t166, t167, t168, t169, t170)) = some (r1, r2, r3, r4, r5, r6) := H
                        have A47 := Aside0.mk A470
                        clear A470
                        simp only [Option.some.injEq, Prod.mk.injEq] at H
                        obtain ⟨rfl, rfl, rfl, rfl, rfl, rfl⟩ := H
                        go_wp2_with (first | ((with_reducible refine gate_callee (f := 23) rfl ?_); refine goesL_ (some 49) rfl rfl Try.func23 (by kernel_rfl) rfl #[.int .i64 0, .int .i64 0, .int .i64 0] rfl (by (try simp only [List.map_toArray, List.map_cons, List.map_nil]); first | done | rfl | (simp only [List.length_drop, List.length_take]; rfl)) ?_; (with_reducible refine (estoversref26_plan.calls 0 0 0 t165 t166 t167 t168 t169 t170 _ A47.out).mono ?_); rintro e w48 ⟨rfl, hb⟩; refine ⟨_, rfl, ?_⟩; have n0_ := Aside0.mk (blk_below (g := gb142) (o := .cells #[.bool a0_0, .bool true, .int .i64 a0_2, .bool a0_3, .bool a0_4, .bool a0_5, .bool a0_6, .int .i64 a0_7, .bool a0_8, .bool a0_9, .bool a0_10, .bool a0_11, .bool a0_12, .bool a0_13, .bool a0_14, .bool a0_15, .int .i64 a0_16] 23 (0, 0)) (by (with_reducible repeat (first | refine blk_drewN ?_ _ | refine blk_drew ?_ | refine blk_alloc ?_ _)); exact BK142.out) hb); have n1_ := Aside0.mk (blk_below (g := gb143) (o := .cells #[.int .i64 0, .int .i64 0, .int .i64 0, .int .i64 0, .int .i64 0] 28 (0, 0)) (by (with_reducible repeat (first | refine blk_drewN ?_ _ | refine blk_drew ?_ | refine blk_alloc ?_ _)); exact BK143.out) hb); have n2_ := Aside0.mk (below_step (by repeat (first | (with_reducible first | exact HB.out | apply below_alloc | apply pw_below_drewN | apply below_drew1 | refine below_set ?_ GE142.out | refine below_set ?_ GE143.out) | exact HB.out)) hb); clear BK142; clear BK143; clear HB; have BK142 := n0_; have BK143 := n1_; have HB := n2_; clear n0_ n1_ n2_; (try clear hb); (try clear hb2); (try clear hk); (try clear hi); have hnb49 := NB143_142.out; have hnc49 := NB142_143.out; have hcz50_0 : w48.cell? ⟨gb143, 0, none⟩ = some (.int .i64 0) := (blk_cell BK143.out 0).trans rfl; have hcz50_1 : w48.cell? ⟨gb143, 1, none⟩ = some (.int .i64 0) := (blk_cell BK143.out 1).trans rfl; have hcz50_2 : w48.cell? ⟨gb143, 2, none⟩ = some (.int .i64 0) := (blk_cell BK143.out 2).trans rfl; have hcz50_3 : w48.cell? ⟨gb143, 3, none⟩ = some (.int .i64 0) := (blk_cell BK143.out 3).trans rfl; have hcz50_4 : w48.cell? ⟨gb143, 4, none⟩ = some (.int .i64 0) := (blk_cell BK143.out 4).trans rfl; have hfz50_0 := blk_frozen BK143.out 0; have hfz50_1 := blk_frozen BK143.out 1; have hfz50_2 := blk_frozen BK143.out 2; have hfz50_3 := blk_frozen BK143.out 3; have hfz50_4 := blk_frozen BK143.out 4))
                        refine bodyPost_ret (results_ct rfl _ _ gb143 28 #[.int .i64 t165, .int .i64 t166, .int .i64 t167, .int .i64 t168, .int .i64 t169] (0, 0) _ rfl (by (with_reducible repeat (first | refine blk_drewN ?_ _ | refine blk_drew ?_ | refine blk_alloc ?_ _)); refine blk_put (cs := #[.int .i64 t165, .int .i64 t166, .int .i64 t167, .int .i64 t168, .int .i64 0]) ?_ 4 _ rfl; (with_reducible repeat (first | refine blk_drewN ?_ _ | refine blk_drew ?_ | refine blk_alloc ?_ _)); refine blk_put (cs := #[.int .i64 t165, .int .i64 t166, .int .i64 t167, .int .i64 0, .int .i64 0]) ?_ 3 _ rfl; (with_reducible repeat (first | refine blk_drewN ?_ _ | refine blk_drew ?_ | refine blk_alloc ?_ _)); refine blk_put (cs := #[.int .i64 t165, .int .i64 t166, .int .i64 0, .int .i64 0, .int .i64 0]) ?_ 2 _ rfl; (with_reducible repeat (first | refine blk_drewN ?_ _ | refine blk_drew ?_ | refine blk_alloc ?_ _)); refine blk_put (cs := #[.int .i64 t165, .int .i64 0, .int .i64 0, .int .i64 0, .int .i64 0]) ?_ 1 _ rfl; (with_reducible repeat (first | refine blk_drewN ?_ _ | refine blk_drew ?_ | refine blk_alloc ?_ _)); refine blk_put (cs := #[.int .i64 0, .int .i64 0, .int .i64 0, .int .i64 0, .int .i64 0]) ?_ 0 _ rfl; (with_reducible repeat (first | refine blk_drewN ?_ _ | refine blk_drew ?_ | refine blk_alloc ?_ _)); exact BK143.out) Try.underlying28 rfl (by kernel_rfl)) rfl ?_
                        exact ⟨by first | rfl | (simp [errW_none, errW_some] <;> rfl) | (simp [*, errW_none, errW_some] <;> rfl), by repeat (first | (with_reducible first | exact HB.out | apply below_alloc | apply pw_below_drewN | apply below_drew1 | refine below_set ?_ GE142.out | refine below_set ?_ GE143.out) | exact HB.out)⟩
                      · replace c46 := Bool.eq_false_iff.mpr c46
                        subst c46
                        have H1 : (if a0_6 = true then ((estoversref26_OwnCopy.f a0_0 true a0_2 a0_3 a0_4 a0_5 a0_6 a0_7 a0_8 a0_9 a0_10 a0_11 a0_12 a0_13 a0_14 a0_15 a0_16).bind fun t171 => (estoversref26_Plan.j3 kj36 (!t171) a0_0 true a0_2 a0_3 a0_4 a0_5 a0_6 a0_7 a0_8 a0_9 a0_10 a0_11 a0_12 a0_13 a0_14 a0_15 a0_16)) else (estoversref26_Plan.j3 kj36 false a0_0 true a0_2 a0_3 a0_4 a0_5 a0_6 a0_7 a0_8 a0_9 a0_10 a0_11 a0_12 a0_13 a0_14 a0_15 a0_16)) = some (r1, r2, r3, r4, r5, r6) := by rw [if_neg (show ¬ (false = true) by decide)] at H; exact H
                        clear H
                        have H := H1
                        clear H1
                        have HC51 := Aside0.mk H
                        clear H
                        go_upto_region 12 with (fail)
                        go_cut [58] (fun v58 wc => ∃ (kq : Nat) (x58_50 : Bool), v58 = .bool x58_50 ∧ Aside0 (estoversref26_Plan.j3 kq x58_50 a0_0 true a0_2 a0_3 a0_4 a0_5 a0_6 a0_7 a0_8 a0_9 a0_10 a0_11 a0_12 a0_13 a0_14 a0_15 a0_16 = some (r1, r2, r3, r4, r5, r6)) ∧ Aside0 (kq ≤ kj36) ∧ Aside0 (wc.heap[gb142]? = some (.cells #[.bool a0_0, .bool true, .int .i64 a0_2, .bool a0_3, .bool a0_4, .bool a0_5, .bool a0_6, .int .i64 a0_7, .bool a0_8, .bool a0_9, .bool a0_10, .bool a0_11, .bool a0_12, .bool a0_13, .bool a0_14, .bool a0_15, .int .i64 a0_16] 23 (0, 0))) ∧ Aside0 (wc.heap[gb143]? = some (.cells #[.int .i64 0, .int .i64 0, .int .i64 0, .int .i64 0, .int .i64 0] 28 (0, 0))) ∧ Aside0 (Below w.heap.size w wc))
                        case first =>
                          have H := HC51.out
                          clear HC51
                          by_cases c52 : a0_6 = true
                          · subst c52
                            have H1 : ((estoversref26_OwnCopy.f a0_0 true a0_2 a0_3 a0_4 a0_5 true a0_7 a0_8 a0_9 a0_10 a0_11 a0_12 a0_13 a0_14 a0_15 a0_16).bind fun t171 => (estoversref26_Plan.j3 kj36 (!t171) a0_0 true a0_2 a0_3 a0_4 a0_5 true a0_7 a0_8 a0_9 a0_10 a0_11 a0_12 a0_13 a0_14 a0_15 a0_16)) = some (r1, r2, r3, r4, r5, r6) := by rw [if_pos rfl] at H; exact H
                            clear H
                            have H := H1
                            clear H1
                            replace H := Option.bind_eq_some_iff.mp H
                            obtain ⟨t171, A530, H⟩ := H
                            replace H : (estoversref26_Plan.j3 kj36 (!t171) a0_0 true a0_2 a0_3 a0_4 a0_5 true a0_7 a0_8 a0_9 a0_10 a0_11 a0_12 a0_13 a0_14 a0_15 a0_16) = some (r1, r2, r3, r4, r5, r6) := H
                            have A53 := Aside0.mk A530
                            clear A530
                            have H' := Aside0.mk H
                            clear H
                            have hnb54 := NB142_143.out
                            have hnc54 := NB143_142.out
                            have hcz55_0 : wc.cell? ⟨gb142, 0, none⟩ = some (.bool a0_0) := (blk_cell BK142.out 0).trans rfl
                            have hcz55_1 : wc.cell? ⟨gb142, 1, none⟩ = some (.bool true) := (blk_cell BK142.out 1).trans rfl
                            have hcz55_2 : wc.cell? ⟨gb142, 2, none⟩ = some (.int .i64 a0_2) := (blk_cell BK142.out 2).trans rfl
                            have hcz55_3 : wc.cell? ⟨gb142, 3, none⟩ = some (.bool a0_3) := (blk_cell BK142.out 3).trans rfl
                            have hcz55_4 : wc.cell? ⟨gb142, 4, none⟩ = some (.bool a0_4) := (blk_cell BK142.out 4).trans rfl
                            have hcz55_5 : wc.cell? ⟨gb142, 5, none⟩ = some (.bool a0_5) := (blk_cell BK142.out 5).trans rfl
                            have hcz55_6 : wc.cell? ⟨gb142, 6, none⟩ = some (.bool true) := (blk_cell BK142.out 6).trans rfl
                            have hcz55_7 : wc.cell? ⟨gb142, 7, none⟩ = some (.int .i64 a0_7) := (blk_cell BK142.out 7).trans rfl
                            have hcz55_8 : wc.cell? ⟨gb142, 8, none⟩ = some (.bool a0_8) := (blk_cell BK142.out 8).trans rfl
                            have hcz55_9 : wc.cell? ⟨gb142, 9, none⟩ = some (.bool a0_9) := (blk_cell BK142.out 9).trans rfl
                            have hcz55_10 : wc.cell? ⟨gb142, 10, none⟩ = some (.bool a0_10) := (blk_cell BK142.out 10).trans rfl
                            have hcz55_11 : wc.cell? ⟨gb142, 11, none⟩ = some (.bool a0_11) := (blk_cell BK142.out 11).trans rfl
                            have hcz55_12 : wc.cell? ⟨gb142, 12, none⟩ = some (.bool a0_12) := (blk_cell BK142.out 12).trans rfl
                            have hcz55_13 : wc.cell? ⟨gb142, 13, none⟩ = some (.bool a0_13) := (blk_cell BK142.out 13).trans rfl
                            have hcz55_14 : wc.cell? ⟨gb142, 14, none⟩ = some (.bool a0_14) := (blk_cell BK142.out 14).trans rfl
                            have hcz55_15 : wc.cell? ⟨gb142, 15, none⟩ = some (.bool a0_15) := (blk_cell BK142.out 15).trans rfl
                            have hcz55_16 : wc.cell? ⟨gb142, 16, none⟩ = some (.int .i64 a0_16) := (blk_cell BK142.out 16).trans rfl
                            have hfz55_0 := blk_frozen BK142.out 0
                            have hfz55_1 := blk_frozen BK142.out 1
                            have hfz55_2 := blk_frozen BK142.out 2
                            have hfz55_3 := blk_frozen BK142.out 3
                            have hfz55_4 := blk_frozen BK142.out 4
                            have hfz55_5 := blk_frozen BK142.out 5
                            have hfz55_6 := blk_frozen BK142.out 6
                            have hfz55_7 := blk_frozen BK142.out 7
                            have hfz55_8 := blk_frozen BK142.out 8
                            have hfz55_9 := blk_frozen BK142.out 9
                            have hfz55_10 := blk_frozen BK142.out 10
                            have hfz55_11 := blk_frozen BK142.out 11
                            have hfz55_12 := blk_frozen BK142.out 12
                            have hfz55_13 := blk_frozen BK142.out 13
                            have hfz55_14 := blk_frozen BK142.out 14
                            have hfz55_15 := blk_frozen BK142.out 15
                            have hfz55_16 := blk_frozen BK142.out 16
                            go_wp2_with (first | (go_at_call 22; (with_reducible refine (estoversref26_OwnCopy.calls a0_0 true a0_2 a0_3 a0_4 a0_5 true a0_7 a0_8 a0_9 a0_10 a0_11 a0_12 a0_13 a0_14 a0_15 a0_16 t171 _ A53.out).mono ?_); rintro e w56 ⟨rfl, hb⟩; have n0_ := Aside0.mk (blk_below (g := gb142) (o := .cells #[.bool a0_0, .bool true, .int .i64 a0_2, .bool a0_3, .bool a0_4, .bool a0_5, .bool true, .int .i64 a0_7, .bool a0_8, .bool a0_9, .bool a0_10, .bool a0_11, .bool a0_12, .bool a0_13, .bool a0_14, .bool a0_15, .int .i64 a0_16] 23 (0, 0)) (by (with_reducible repeat (first | refine blk_drewN ?_ _ | refine blk_drew ?_ | refine blk_alloc ?_ _)); exact BK142.out) hb); have n1_ := Aside0.mk (blk_below (g := gb143) (o := .cells #[.int .i64 0, .int .i64 0, .int .i64 0, .int .i64 0, .int .i64 0] 28 (0, 0)) (by (with_reducible repeat (first | refine blk_drewN ?_ _ | refine blk_drew ?_ | refine blk_alloc ?_ _)); exact BK143.out) hb); have n2_ := Aside0.mk (below_step (by repeat (first | (with_reducible first | exact HB.out | apply below_alloc | apply pw_below_drewN | apply below_drew1 | refine below_set ?_ GE142.out | refine below_set ?_ GE143.out) | exact HB.out)) hb); clear BK142; clear BK143; clear HB; have BK142 := n0_; have BK143 := n1_; have HB := n2_; clear n0_ n1_ n2_; (try clear hb); (try clear hb2); (try clear hk); (try clear hi)))
                            go_meet
                            case rel => exact ⟨_, (!t171), (by first | rfl | (simp; done) | (simp [*]; done)), H', ⟨by have := HJ4.out; have := HJ23.out; have := HJ36.out; first | omega | exact Nat.le_refl _⟩, ⟨by (with_reducible repeat (first | refine blk_drewN ?_ _ | refine blk_drew ?_ | refine blk_alloc ?_ _)); exact BK142.out⟩, ⟨by (with_reducible repeat (first | refine blk_drewN ?_ _ | refine blk_drew ?_ | refine blk_alloc ?_ _)); exact BK143.out⟩, ⟨by repeat (first | (with_reducible first | exact HB.out | apply below_alloc | apply pw_below_drewN | apply below_drew1 | refine below_set ?_ GE142.out | refine below_set ?_ GE143.out) | exact HB.out)⟩⟩
                          · replace c52 := Bool.eq_false_iff.mpr c52
                            subst c52
                            have H1 : (estoversref26_Plan.j3 kj36 false a0_0 true a0_2 a0_3 a0_4 a0_5 false a0_7 a0_8 a0_9 a0_10 a0_11 a0_12 a0_13 a0_14 a0_15 a0_16) = some (r1, r2, r3, r4, r5, r6) := by rw [if_neg (show ¬ (false = true) by decide)] at H; exact H
                            clear H
                            have H := H1
                            clear H1
                            have H' := Aside0.mk H
                            clear H
                            have hnb57 := NB142_143.out
                            have hnc57 := NB143_142.out
                            have hcz58_0 : wc.cell? ⟨gb142, 0, none⟩ = some (.bool a0_0) := (blk_cell BK142.out 0).trans rfl
                            have hcz58_1 : wc.cell? ⟨gb142, 1, none⟩ = some (.bool true) := (blk_cell BK142.out 1).trans rfl
                            have hcz58_2 : wc.cell? ⟨gb142, 2, none⟩ = some (.int .i64 a0_2) := (blk_cell BK142.out 2).trans rfl
                            have hcz58_3 : wc.cell? ⟨gb142, 3, none⟩ = some (.bool a0_3) := (blk_cell BK142.out 3).trans rfl
                            have hcz58_4 : wc.cell? ⟨gb142, 4, none⟩ = some (.bool a0_4) := (blk_cell BK142.out 4).trans rfl
                            have hcz58_5 : wc.cell? ⟨gb142, 5, none⟩ = some (.bool a0_5) := (blk_cell BK142.out 5).trans rfl
                            have hcz58_6 : wc.cell? ⟨gb142, 6, none⟩ = some (.bool false) := (blk_cell BK142.out 6).trans rfl
                            have hcz58_7 : wc.cell? ⟨gb142, 7, none⟩ = some (.int .i64 a0_7) := (blk_cell BK142.out 7).trans rfl
                            have hcz58_8 : wc.cell? ⟨gb142, 8, none⟩ = some (.bool a0_8) := (blk_cell BK142.out 8).trans rfl
                            have hcz58_9 : wc.cell? ⟨gb142, 9, none⟩ = some (.bool a0_9) := (blk_cell BK142.out 9).trans rfl
                            have hcz58_10 : wc.cell? ⟨gb142, 10, none⟩ = some (.bool a0_10) := (blk_cell BK142.out 10).trans rfl
                            have hcz58_11 : wc.cell? ⟨gb142, 11, none⟩ = some (.bool a0_11) := (blk_cell BK142.out 11).trans rfl
                            have hcz58_12 : wc.cell? ⟨gb142, 12, none⟩ = some (.bool a0_12) := (blk_cell BK142.out 12).trans rfl
                            have hcz58_13 : wc.cell? ⟨gb142, 13, none⟩ = some (.bool a0_13) := (blk_cell BK142.out 13).trans rfl
                            have hcz58_14 : wc.cell? ⟨gb142, 14, none⟩ = some (.bool a0_14) := (blk_cell BK142.out 14).trans rfl
                            have hcz58_15 : wc.cell? ⟨gb142, 15, none⟩ = some (.bool a0_15) := (blk_cell BK142.out 15).trans rfl
                            have hcz58_16 : wc.cell? ⟨gb142, 16, none⟩ = some (.int .i64 a0_16) := (blk_cell BK142.out 16).trans rfl
                            have hfz58_0 := blk_frozen BK142.out 0
                            have hfz58_1 := blk_frozen BK142.out 1
                            have hfz58_2 := blk_frozen BK142.out 2
                            have hfz58_3 := blk_frozen BK142.out 3
                            have hfz58_4 := blk_frozen BK142.out 4
                            have hfz58_5 := blk_frozen BK142.out 5
                            have hfz58_6 := blk_frozen BK142.out 6
                            have hfz58_7 := blk_frozen BK142.out 7
                            have hfz58_8 := blk_frozen BK142.out 8
                            have hfz58_9 := blk_frozen BK142.out 9
                            have hfz58_10 := blk_frozen BK142.out 10
                            have hfz58_11 := blk_frozen BK142.out 11
                            have hfz58_12 := blk_frozen BK142.out 12
                            have hfz58_13 := blk_frozen BK142.out 13
                            have hfz58_14 := blk_frozen BK142.out 14
                            have hfz58_15 := blk_frozen BK142.out 15
                            have hfz58_16 := blk_frozen BK142.out 16
                            go_wp2
                            go_meet
                            case rel => exact ⟨_, (false), (by first | rfl | (simp; done) | (simp [*]; done)), H', ⟨by have := HJ4.out; have := HJ23.out; have := HJ36.out; first | omega | exact Nat.le_refl _⟩, ⟨by (with_reducible repeat (first | refine blk_drewN ?_ _ | refine blk_drew ?_ | refine blk_alloc ?_ _)); exact BK142.out⟩, ⟨by (with_reducible repeat (first | refine blk_drewN ?_ _ | refine blk_drew ?_ | refine blk_alloc ?_ _)); exact BK143.out⟩, ⟨by repeat (first | (with_reducible first | exact HB.out | apply below_alloc | apply pw_below_drewN | apply below_drew1 | refine below_set ?_ GE142.out | refine below_set ?_ GE143.out) | exact HB.out)⟩⟩
                        case rest =>
                          clear HC51
                          try clear c1
                          try clear c2
                          try clear p2
                          try clear c3
                          try clear c3b0
                          try clear c3b1
                          try clear c4
                          try clear c5
                          try clear c8
                          try clear c11
                          try clear c12
                          try clear c14
                          try clear c17
                          try clear c19
                          try clear c21
                          try clear c22
                          try clear c23
                          try clear c25
                          try clear c27
                          try clear c30
                          try clear c32
                          try clear c35
                          try clear c38
                          try clear c38b0
                          try clear c38b1
                          try clear c39
                          try clear c40
                          try clear c42
                          try clear c44
                          try clear c46
                          try clear c49
                          try clear c52
                          try clear c54
                          try clear c57
                          try clear hcz11_0
                          try clear hcz11_1
                          try clear hcz11_10
                          try clear hcz11_11
                          try clear hcz11_12
                          try clear hcz11_13
                          try clear hcz11_14
                          try clear hcz11_15
                          try clear hcz11_16
                          try clear hcz11_2
                          try clear hcz11_3
                          try clear hcz11_4
                          try clear hcz11_5
                          try clear hcz11_6
                          try clear hcz11_7
                          try clear hcz11_8
                          try clear hcz11_9
                          try clear hcz15_0
                          try clear hcz15_1
                          try clear hcz15_10
                          try clear hcz15_11
                          try clear hcz15_12
                          try clear hcz15_13
                          try clear hcz15_14
                          try clear hcz15_15
                          try clear hcz15_16
                          try clear hcz15_2
                          try clear hcz15_3
                          try clear hcz15_4
                          try clear hcz15_5
                          try clear hcz15_6
                          try clear hcz15_7
                          try clear hcz15_8
                          try clear hcz15_9
                          try clear hcz18_0
                          try clear hcz18_1
                          try clear hcz18_10
                          try clear hcz18_11
                          try clear hcz18_12
                          try clear hcz18_13
                          try clear hcz18_14
                          try clear hcz18_15
                          try clear hcz18_16
                          try clear hcz18_2
                          try clear hcz18_3
                          try clear hcz18_4
                          try clear hcz18_5
                          try clear hcz18_6
                          try clear hcz18_7
                          try clear hcz18_8
                          try clear hcz18_9
                          try clear hcz23_0
                          try clear hcz23_1
                          try clear hcz23_2
                          try clear hcz23_3
                          try clear hcz23_4
                          try clear hcz28_0
                          try clear hcz28_1
                          try clear hcz28_10
                          try clear hcz28_11
                          try clear hcz28_12
                          try clear hcz28_13
                          try clear hcz28_14
                          try clear hcz28_15
                          try clear hcz28_16
                          try clear hcz28_2
                          try clear hcz28_3
                          try clear hcz28_4
                          try clear hcz28_5
                          try clear hcz28_6
                          try clear hcz28_7
                          try clear hcz28_8
                          try clear hcz28_9
                          try clear hcz31_0
                          try clear hcz31_1
                          try clear hcz31_10
                          try clear hcz31_11
                          try clear hcz31_12
                          try clear hcz31_13
                          try clear hcz31_14
                          try clear hcz31_15
                          try clear hcz31_16
                          try clear hcz31_2
                          try clear hcz31_3
                          try clear hcz31_4
                          try clear hcz31_5
                          try clear hcz31_6
                          try clear hcz31_7
                          try clear hcz31_8
                          try clear hcz31_9
                          try clear hcz36_0
                          try clear hcz36_1
                          try clear hcz36_2
                          try clear hcz36_3
                          try clear hcz36_4
                          try clear hcz41_0
                          try clear hcz41_1
                          try clear hcz41_10
                          try clear hcz41_11
                          try clear hcz41_12
                          try clear hcz41_13
                          try clear hcz41_14
                          try clear hcz41_15
                          try clear hcz41_16
                          try clear hcz41_2
                          try clear hcz41_3
                          try clear hcz41_4
                          try clear hcz41_5
                          try clear hcz41_6
                          try clear hcz41_7
                          try clear hcz41_8
                          try clear hcz41_9
                          try clear hcz43_0
                          try clear hcz43_1
                          try clear hcz43_10
                          try clear hcz43_11
                          try clear hcz43_12
                          try clear hcz43_13
                          try clear hcz43_14
                          try clear hcz43_15
                          try clear hcz43_16
                          try clear hcz43_2
                          try clear hcz43_3
                          try clear hcz43_4
                          try clear hcz43_5
                          try clear hcz43_6
                          try clear hcz43_7
                          try clear hcz43_8
                          try clear hcz43_9
                          try clear hcz45_0
                          try clear hcz45_1
                          try clear hcz45_10
                          try clear hcz45_11
                          try clear hcz45_12
                          try clear hcz45_13
                          try clear hcz45_14
                          try clear hcz45_15
                          try clear hcz45_16
                          try clear hcz45_2
                          try clear hcz45_3
                          try clear hcz45_4
                          try clear hcz45_5
                          try clear hcz45_6
                          try clear hcz45_7
                          try clear hcz45_8
                          try clear hcz45_9
                          try clear hcz50_0
                          try clear hcz50_1
                          try clear hcz50_2
                          try clear hcz50_3
                          try clear hcz50_4
                          try clear hcz55_0
                          try clear hcz55_1
                          try clear hcz55_10
                          try clear hcz55_11
                          try clear hcz55_12
                          try clear hcz55_13
                          try clear hcz55_14
                          try clear hcz55_15
                          try clear hcz55_16
                          try clear hcz55_2
                          try clear hcz55_3
                          try clear hcz55_4
                          try clear hcz55_5
                          try clear hcz55_6
                          try clear hcz55_7
                          try clear hcz55_8
                          try clear hcz55_9
                          try clear hcz58_0
                          try clear hcz58_1
                          try clear hcz58_10
                          try clear hcz58_11
                          try clear hcz58_12
                          try clear hcz58_13
                          try clear hcz58_14
                          try clear hcz58_15
                          try clear hcz58_16
                          try clear hcz58_2
                          try clear hcz58_3
                          try clear hcz58_4
                          try clear hcz58_5
                          try clear hcz58_6
                          try clear hcz58_7
                          try clear hcz58_8
                          try clear hcz58_9
                          try clear hcz9_0
                          try clear hcz9_1
                          try clear hcz9_10
                          try clear hcz9_11
                          try clear hcz9_12
                          try clear hcz9_13
                          try clear hcz9_14
                          try clear hcz9_15
                          try clear hcz9_16
                          try clear hcz9_2
                          try clear hcz9_3
                          try clear hcz9_4
                          try clear hcz9_5
                          try clear hcz9_6
                          try clear hcz9_7
                          try clear hcz9_8
                          try clear hcz9_9
                          try clear hfz11_0
                          try clear hfz11_1
                          try clear hfz11_10
                          try clear hfz11_11
                          try clear hfz11_12
                          try clear hfz11_13
                          try clear hfz11_14
                          try clear hfz11_15
                          try clear hfz11_16
                          try clear hfz11_2
                          try clear hfz11_3
                          try clear hfz11_4
                          try clear hfz11_5
                          try clear hfz11_6
                          try clear hfz11_7
                          try clear hfz11_8
                          try clear hfz11_9
                          try clear hfz15_0
                          try clear hfz15_1
                          try clear hfz15_10
                          try clear hfz15_11
                          try clear hfz15_12
                          try clear hfz15_13
                          try clear hfz15_14
                          try clear hfz15_15
                          try clear hfz15_16
                          try clear hfz15_2
                          try clear hfz15_3
                          try clear hfz15_4
                          try clear hfz15_5
                          try clear hfz15_6
                          try clear hfz15_7
                          try clear hfz15_8
                          try clear hfz15_9
                          try clear hfz18_0
                          try clear hfz18_1
                          try clear hfz18_10
                          try clear hfz18_11
                          try clear hfz18_12
                          try clear hfz18_13
                          try clear hfz18_14
                          try clear hfz18_15
                          try clear hfz18_16
                          try clear hfz18_2
                          try clear hfz18_3
                          try clear hfz18_4
                          try clear hfz18_5
                          try clear hfz18_6
                          try clear hfz18_7
                          try clear hfz18_8
                          try clear hfz18_9
                          try clear hfz23_0
                          try clear hfz23_1
                          try clear hfz23_2
                          try clear hfz23_3
                          try clear hfz23_4
                          try clear hfz28_0
                          try clear hfz28_1
                          try clear hfz28_10
                          try clear hfz28_11
                          try clear hfz28_12
                          try clear hfz28_13
                          try clear hfz28_14
                          try clear hfz28_15
                          try clear hfz28_16
                          try clear hfz28_2
                          try clear hfz28_3
                          try clear hfz28_4
                          try clear hfz28_5
                          try clear hfz28_6
                          try clear hfz28_7
                          try clear hfz28_8
                          try clear hfz28_9
                          try clear hfz31_0
                          try clear hfz31_1
                          try clear hfz31_10
                          try clear hfz31_11
                          try clear hfz31_12
                          try clear hfz31_13
                          try clear hfz31_14
                          try clear hfz31_15
                          try clear hfz31_16
                          try clear hfz31_2
                          try clear hfz31_3
                          try clear hfz31_4
                          try clear hfz31_5
                          try clear hfz31_6
                          try clear hfz31_7
                          try clear hfz31_8
                          try clear hfz31_9
                          try clear hfz36_0
                          try clear hfz36_1
                          try clear hfz36_2
                          try clear hfz36_3
                          try clear hfz36_4
                          try clear hfz41_0
                          try clear hfz41_1
                          try clear hfz41_10
                          try clear hfz41_11
                          try clear hfz41_12
                          try clear hfz41_13
                          try clear hfz41_14
                          try clear hfz41_15
                          try clear hfz41_16
                          try clear hfz41_2
                          try clear hfz41_3
                          try clear hfz41_4
                          try clear hfz41_5
                          try clear hfz41_6
                          try clear hfz41_7
                          try clear hfz41_8
                          try clear hfz41_9
                          try clear hfz43_0
                          try clear hfz43_1
                          try clear hfz43_10
                          try clear hfz43_11
                          try clear hfz43_12
                          try clear hfz43_13
                          try clear hfz43_14
                          try clear hfz43_15
                          try clear hfz43_16
                          try clear hfz43_2
                          try clear hfz43_3
                          try clear hfz43_4
                          try clear hfz43_5
                          try clear hfz43_6
                          try clear hfz43_7
                          try clear hfz43_8
                          try clear hfz43_9
                          try clear hfz45_0
                          try clear hfz45_1
                          try clear hfz45_10
                          try clear hfz45_11
                          try clear hfz45_12
                          try clear hfz45_13
                          try clear hfz45_14
                          try clear hfz45_15
                          try clear hfz45_16
                          try clear hfz45_2
                          try clear hfz45_3
                          try clear hfz45_4
                          try clear hfz45_5
                          try clear hfz45_6
                          try clear hfz45_7
                          try clear hfz45_8
                          try clear hfz45_9
                          try clear hfz50_0
                          try clear hfz50_1
                          try clear hfz50_2
                          try clear hfz50_3
                          try clear hfz50_4
                          try clear hfz55_0
                          try clear hfz55_1
                          try clear hfz55_10
                          try clear hfz55_11
                          try clear hfz55_12
                          try clear hfz55_13
                          try clear hfz55_14
                          try clear hfz55_15
                          try clear hfz55_16
                          try clear hfz55_2
                          try clear hfz55_3
                          try clear hfz55_4
                          try clear hfz55_5
                          try clear hfz55_6
                          try clear hfz55_7
                          try clear hfz55_8
                          try clear hfz55_9
                          try clear hfz58_0
                          try clear hfz58_1
                          try clear hfz58_10
                          try clear hfz58_11
                          try clear hfz58_12
                          try clear hfz58_13
                          try clear hfz58_14
                          try clear hfz58_15
                          try clear hfz58_16
                          try clear hfz58_2
                          try clear hfz58_3
                          try clear hfz58_4
                          try clear hfz58_5
                          try clear hfz58_6
                          try clear hfz58_7
                          try clear hfz58_8
                          try clear hfz58_9
                          try clear hfz9_0
                          try clear hfz9_1
                          try clear hfz9_10
                          try clear hfz9_11
                          try clear hfz9_12
                          try clear hfz9_13
                          try clear hfz9_14
                          try clear hfz9_15
                          try clear hfz9_16
                          try clear hfz9_2
                          try clear hfz9_3
                          try clear hfz9_4
                          try clear hfz9_5
                          try clear hfz9_6
                          try clear hfz9_7
                          try clear hfz9_8
                          try clear hfz9_9
                          try clear p2
                          obtain ⟨kq, x58_50, rfl, HA, HJ50, BK142, BK143, HB⟩ := hcut
                          cases kq with
                          | zero => exact absurd HA.out (by simp [estoversref26_Plan.j3])
                          | succ kj50 =>
                            have H := HA.out
                            clear HA
                            simp only [estoversref26_Plan.j3] at H
                            by_cases c59 : x58_50 = true
                            · subst c59
                              have H1 : ((estoversref26_wait.f 4).bind fun bt172 => (some (bt172.1, bt172.2.1, bt172.2.2.1, bt172.2.2.2.1, bt172.2.2.2.2.1, bt172.2.2.2.2.2))) = some (r1, r2, r3, r4, r5, r6) := by rw [if_pos rfl] at H; exact H
                              clear H
                              have H := H1
                              clear H1
                              replace H := Option.bind_eq_some_iff.mp H
                              obtain ⟨⟨t172, t173, t174, t175, t176, t177⟩, A600, H⟩ := H
                              replace H : (some (t172, t173, t174, t175, t176, t177)) = some (r1, r2, r3, r4, r5, r6) := H
                              have A60 := Aside0.mk A600
                              clear A600
                              simp only [Option.some.injEq, Prod.mk.injEq] at H
                              obtain ⟨rfl, rfl, rfl, rfl, rfl, rfl⟩ := H
                              go_wp2_with (first | ((with_reducible refine gate_callee (f := 24) rfl ?_); refine goesL_ (some 59) rfl rfl Try.func24 (by kernel_rfl) rfl #[.int .i64 4] rfl (by (try simp only [List.map_toArray, List.map_cons, List.map_nil]); first | done | rfl | (simp only [List.length_drop, List.length_take]; rfl)) ?_; (with_reducible refine (estoversref26_wait.calls 4 t172 t173 t174 t175 t176 t177 _ A60.out).mono ?_); rintro e w61 ⟨rfl, hb⟩; refine ⟨_, rfl, ?_⟩; have n0_ := Aside0.mk (blk_below (g := gb142) (o := .cells #[.bool a0_0, .bool true, .int .i64 a0_2, .bool a0_3, .bool a0_4, .bool a0_5, .bool a0_6, .int .i64 a0_7, .bool a0_8, .bool a0_9, .bool a0_10, .bool a0_11, .bool a0_12, .bool a0_13, .bool a0_14, .bool a0_15, .int .i64 a0_16] 23 (0, 0)) (by (with_reducible repeat (first | refine blk_drewN ?_ _ | refine blk_drew ?_ | refine blk_alloc ?_ _)); exact BK142.out) hb); have n1_ := Aside0.mk (blk_below (g := gb143) (o := .cells #[.int .i64 0, .int .i64 0, .int .i64 0, .int .i64 0, .int .i64 0] 28 (0, 0)) (by (with_reducible repeat (first | refine blk_drewN ?_ _ | refine blk_drew ?_ | refine blk_alloc ?_ _)); exact BK143.out) hb); have n2_ := Aside0.mk (below_step (by repeat (first | (with_reducible first | exact HB.out | apply below_alloc | apply pw_below_drewN | apply below_drew1 | refine below_set ?_ GE142.out | refine below_set ?_ GE143.out) | exact HB.out)) hb); clear BK142; clear BK143; clear HB; have BK142 := n0_; have BK143 := n1_; have HB := n2_; clear n0_ n1_ n2_; (try clear hb); (try clear hb2); (try clear hk); (try clear hi); have hnb62 := NB143_142.out; have hnc62 := NB142_143.out; have hcz63_0 : w61.cell? ⟨gb143, 0, none⟩ = some (.int .i64 0) := (blk_cell BK143.out 0).trans rfl; have hcz63_1 : w61.cell? ⟨gb143, 1, none⟩ = some (.int .i64 0) := (blk_cell BK143.out 1).trans rfl; have hcz63_2 : w61.cell? ⟨gb143, 2, none⟩ = some (.int .i64 0) := (blk_cell BK143.out 2).trans rfl; have hcz63_3 : w61.cell? ⟨gb143, 3, none⟩ = some (.int .i64 0) := (blk_cell BK143.out 3).trans rfl; have hcz63_4 : w61.cell? ⟨gb143, 4, none⟩ = some (.int .i64 0) := (blk_cell BK143.out 4).trans rfl; have hfz63_0 := blk_frozen BK143.out 0; have hfz63_1 := blk_frozen BK143.out 1; have hfz63_2 := blk_frozen BK143.out 2; have hfz63_3 := blk_frozen BK143.out 3; have hfz63_4 := blk_frozen BK143.out 4))
                              refine bodyPost_ret (results_ct rfl _ _ gb143 28 #[.int .i64 t172, .int .i64 t173, .int .i64 t174, .int .i64 t175, .int .i64 t176] (0, 0) _ rfl (by (with_reducible repeat (first | refine blk_drewN ?_ _ | refine blk_drew ?_ | refine blk_alloc ?_ _)); refine blk_put (cs := #[.int .i64 t172, .int .i64 t173, .int .i64 t174, .int .i64 t175, .int .i64 0]) ?_ 4 _ rfl; (with_reducible repeat (first | refine blk_drewN ?_ _ | refine blk_drew ?_ | refine blk_alloc ?_ _)); refine blk_put (cs := #[.int .i64 t172, .int .i64 t173, .int .i64 t174, .int .i64 0, .int .i64 0]) ?_ 3 _ rfl; (with_reducible repeat (first | refine blk_drewN ?_ _ | refine blk_drew ?_ | refine blk_alloc ?_ _)); refine blk_put (cs := #[.int .i64 t172, .int .i64 t173, .int .i64 0, .int .i64 0, .int .i64 0]) ?_ 2 _ rfl; (with_reducible repeat (first | refine blk_drewN ?_ _ | refine blk_drew ?_ | refine blk_alloc ?_ _)); refine blk_put (cs := #[.int .i64 t172, .int .i64 0, .int .i64 0, .int .i64 0, .int .i64 0]) ?_ 1 _ rfl; (with_reducible repeat (first | refine blk_drewN ?_ _ | refine blk_drew ?_ | refine blk_alloc ?_ _)); refine blk_put (cs := #[.int .i64 0, .int .i64 0, .int .i64 0, .int .i64 0, .int .i64 0]) ?_ 0 _ rfl; (with_reducible repeat (first | refine blk_drewN ?_ _ | refine blk_drew ?_ | refine blk_alloc ?_ _)); exact BK143.out) Try.underlying28 rfl (by kernel_rfl)) rfl ?_
                              exact ⟨by first | rfl | (simp [errW_none, errW_some] <;> rfl) | (simp [*, errW_none, errW_some] <;> rfl), by repeat (first | (with_reducible first | exact HB.out | apply below_alloc | apply pw_below_drewN | apply below_drew1 | refine below_set ?_ GE142.out | refine below_set ?_ GE143.out) | exact HB.out)⟩
                            · replace c59 := Bool.eq_false_iff.mpr c59
                              subst c59
                              have H1 : (if a0_9 = true then ((estoversref26_wait.f 3).bind fun bt178 => (some (bt178.1, bt178.2.1, bt178.2.2.1, bt178.2.2.2.1, bt178.2.2.2.2.1, bt178.2.2.2.2.2))) else (if a0_7 = 1 then ((estoversref26_write.f kj50 a0_0 true a0_2 a0_3 a0_4 a0_5 a0_6 a0_7 a0_8 a0_9 a0_10 a0_11 a0_12 a0_13 a0_14 a0_15 a0_16).bind fun bt184 => (some (bt184.1, bt184.2.1, bt184.2.2.1, bt184.2.2.2.1, bt184.2.2.2.2.1, bt184.2.2.2.2.2))) else (if a0_7 = 2 then (if a0_12 = true then ((estoversref26_plan.f 10 0 0).bind fun bt190 => (some (bt190.1, bt190.2.1, bt190.2.2.1, bt190.2.2.2.1, bt190.2.2.2.2.1, bt190.2.2.2.2.2))) else ((estoversref26_plan.f 11 0 1).bind fun bt196 => (some (bt196.1, bt196.2.1, bt196.2.2.1, bt196.2.2.2.1, bt196.2.2.2.2.1, bt196.2.2.2.2.2)))) else (if a0_4 = true then (if a0_12 = true then ((estoversref26_plan.f 6 a0_16 0).bind fun bt208 => (some (bt208.1, bt208.2.1, bt208.2.2.1, bt208.2.2.2.1, bt208.2.2.2.2.1, bt208.2.2.2.2.2))) else (if a0_13 = true then ((estoversref26_plan.f 5 0 1).bind fun bt214 => (some (bt214.1, bt214.2.1, bt214.2.2.1, bt214.2.2.2.1, bt214.2.2.2.2.1, bt214.2.2.2.2.2))) else ((estoversref26_plan.f 4 a0_16 1).bind fun bt220 => (some (bt220.1, bt220.2.1, bt220.2.2.1, bt220.2.2.2.1, bt220.2.2.2.2.1, bt220.2.2.2.2.2))))) else ((estoversref26_plan.f 3 a0_16 1).bind fun bt202 => (some (bt202.1, bt202.2.1, bt202.2.2.1, bt202.2.2.2.1, bt202.2.2.2.2.1, bt202.2.2.2.2.2))))))) = some (r1, r2, r3, r4, r5, r6) := by rw [if_neg (show ¬ (false = true) by decide)] at H; exact H
                              clear H
                              have H := H1
                              clear H1
                              by_cases c64 : a0_9 = true
                              · subst c64
                                have H1 : ((estoversref26_wait.f 3).bind fun bt178 => (some (bt178.1, bt178.2.1, bt178.2.2.1, bt178.2.2.2.1, bt178.2.2.2.2.1, bt178.2.2.2.2.2))) = some (r1, r2, r3, r4, r5, r6) := by rw [if_pos rfl] at H; exact H
                                clear H
                                have H := H1
                                clear H1
                                replace H := Option.bind_eq_some_iff.mp H
                                obtain ⟨⟨t178, t179, t180, t181, t182, t183⟩, A650, H⟩ := H
                                replace H : (some (t178, t179, t180, t181, t182, t183)) = some (r1, r2, r3, r4, r5, r6) := H
                                have A65 := Aside0.mk A650
                                clear A650
                                simp only [Option.some.injEq, Prod.mk.injEq] at H
                                obtain ⟨rfl, rfl, rfl, rfl, rfl, rfl⟩ := H
                                have hnb66 := NB142_143.out
                                have hnc66 := NB143_142.out
                                have hcz67_0 : wc.cell? ⟨gb142, 0, none⟩ = some (.bool a0_0) := (blk_cell BK142.out 0).trans rfl
                                have hcz67_1 : wc.cell? ⟨gb142, 1, none⟩ = some (.bool true) := (blk_cell BK142.out 1).trans rfl
                                have hcz67_2 : wc.cell? ⟨gb142, 2, none⟩ = some (.int .i64 a0_2) := (blk_cell BK142.out 2).trans rfl
                                have hcz67_3 : wc.cell? ⟨gb142, 3, none⟩ = some (.bool a0_3) := (blk_cell BK142.out 3).trans rfl
                                have hcz67_4 : wc.cell? ⟨gb142, 4, none⟩ = some (.bool a0_4) := (blk_cell BK142.out 4).trans rfl
                                have hcz67_5 : wc.cell? ⟨gb142, 5, none⟩ = some (.bool a0_5) := (blk_cell BK142.out 5).trans rfl
                                have hcz67_6 : wc.cell? ⟨gb142, 6, none⟩ = some (.bool a0_6) := (blk_cell BK142.out 6).trans rfl
                                have hcz67_7 : wc.cell? ⟨gb142, 7, none⟩ = some (.int .i64 a0_7) := (blk_cell BK142.out 7).trans rfl
                                have hcz67_8 : wc.cell? ⟨gb142, 8, none⟩ = some (.bool a0_8) := (blk_cell BK142.out 8).trans rfl
                                have hcz67_9 : wc.cell? ⟨gb142, 9, none⟩ = some (.bool true) := (blk_cell BK142.out 9).trans rfl
                                have hcz67_10 : wc.cell? ⟨gb142, 10, none⟩ = some (.bool a0_10) := (blk_cell BK142.out 10).trans rfl
                                have hcz67_11 : wc.cell? ⟨gb142, 11, none⟩ = some (.bool a0_11) := (blk_cell BK142.out 11).trans rfl
                                have hcz67_12 : wc.cell? ⟨gb142, 12, none⟩ = some (.bool a0_12) := (blk_cell BK142.out 12).trans rfl
                                have hcz67_13 : wc.cell? ⟨gb142, 13, none⟩ = some (.bool a0_13) := (blk_cell BK142.out 13).trans rfl
                                have hcz67_14 : wc.cell? ⟨gb142, 14, none⟩ = some (.bool a0_14) := (blk_cell BK142.out 14).trans rfl
                                have hcz67_15 : wc.cell? ⟨gb142, 15, none⟩ = some (.bool a0_15) := (blk_cell BK142.out 15).trans rfl
                                have hcz67_16 : wc.cell? ⟨gb142, 16, none⟩ = some (.int .i64 a0_16) := (blk_cell BK142.out 16).trans rfl
                                have hfz67_0 := blk_frozen BK142.out 0
                                have hfz67_1 := blk_frozen BK142.out 1
                                have hfz67_2 := blk_frozen BK142.out 2
                                have hfz67_3 := blk_frozen BK142.out 3
                                have hfz67_4 := blk_frozen BK142.out 4
                                have hfz67_5 := blk_frozen BK142.out 5
                                have hfz67_6 := blk_frozen BK142.out 6
                                have hfz67_7 := blk_frozen BK142.out 7
                                have hfz67_8 := blk_frozen BK142.out 8
                                have hfz67_9 := blk_frozen BK142.out 9
                                have hfz67_10 := blk_frozen BK142.out 10
                                have hfz67_11 := blk_frozen BK142.out 11
                                have hfz67_12 := blk_frozen BK142.out 12
                                have hfz67_13 := blk_frozen BK142.out 13
                                have hfz67_14 := blk_frozen BK142.out 14
                                have hfz67_15 := blk_frozen BK142.out 15
                                have hfz67_16 := blk_frozen BK142.out 16
                                go_wp2_with (first | ((with_reducible refine gate_callee (f := 24) rfl ?_); refine goesL_ (some 64) rfl rfl Try.func24 (by kernel_rfl) rfl #[.int .i64 3] rfl (by (try simp only [List.map_toArray, List.map_cons, List.map_nil]); first | done | rfl | (simp only [List.length_drop, List.length_take]; rfl)) ?_; (with_reducible refine (estoversref26_wait.calls 3 t178 t179 t180 t181 t182 t183 _ A65.out).mono ?_); rintro e w68 ⟨rfl, hb⟩; refine ⟨_, rfl, ?_⟩; have n0_ := Aside0.mk (blk_below (g := gb142) (o := .cells #[.bool a0_0, .bool true, .int .i64 a0_2, .bool a0_3, .bool a0_4, .bool a0_5, .bool a0_6, .int .i64 a0_7, .bool a0_8, .bool true, .bool a0_10, .bool a0_11, .bool a0_12, .bool a0_13, .bool a0_14, .bool a0_15, .int .i64 a0_16] 23 (0, 0)) (by (with_reducible repeat (first | refine blk_drewN ?_ _ | refine blk_drew ?_ | refine blk_alloc ?_ _)); exact BK142.out) hb); have n1_ := Aside0.mk (blk_below (g := gb143) (o := .cells #[.int .i64 0, .int .i64 0, .int .i64 0, .int .i64 0, .int .i64 0] 28 (0, 0)) (by (with_reducible repeat (first | refine blk_drewN ?_ _ | refine blk_drew ?_ | refine blk_alloc ?_ _)); exact BK143.out) hb); have n2_ := Aside0.mk (below_step (by repeat (first | (with_reducible first | exact HB.out | apply below_alloc | apply pw_below_drewN | apply below_drew1 | refine below_set ?_ GE142.out | refine below_set ?_ GE143.out) | exact HB.out)) hb); clear BK142; clear BK143; clear HB; have BK142 := n0_; have BK143 := n1_; have HB := n2_; clear n0_ n1_ n2_; (try clear hb); (try clear hb2); (try clear hk); (try clear hi); have hcz69_0 : w68.cell? ⟨gb143, 0, none⟩ = some (.int .i64 0) := (blk_cell BK143.out 0).trans rfl; have hcz69_1 : w68.cell? ⟨gb143, 1, none⟩ = some (.int .i64 0) := (blk_cell BK143.out 1).trans rfl; have hcz69_2 : w68.cell? ⟨gb143, 2, none⟩ = some (.int .i64 0) := (blk_cell BK143.out 2).trans rfl; have hcz69_3 : w68.cell? ⟨gb143, 3, none⟩ = some (.int .i64 0) := (blk_cell BK143.out 3).trans rfl; have hcz69_4 : w68.cell? ⟨gb143, 4, none⟩ = some (.int .i64 0) := (blk_cell BK143.out 4).trans rfl; have hfz69_0 := blk_frozen BK143.out 0; have hfz69_1 := blk_frozen BK143.out 1; have hfz69_2 := blk_frozen BK143.out 2; have hfz69_3 := blk_frozen BK143.out 3; have hfz69_4 := blk_frozen BK143.out 4))
                                refine bodyPost_ret (results_ct rfl _ _ gb143 28 #[.int .i64 t178, .int .i64 t179, .int .i64 t180, .int .i64 t181, .int .i64 t182] (0, 0) _ rfl (by (with_reducible repeat (first | refine blk_drewN ?_ _ | refine blk_drew ?_ | refine blk_alloc ?_ _)); refine blk_put (cs := #[.int .i64 t178, .int .i64 t179, .int .i64 t180, .int .i64 t181, .int .i64 0]) ?_ 4 _ rfl; (with_reducible repeat (first | refine blk_drewN ?_ _ | refine blk_drew ?_ | refine blk_alloc ?_ _)); refine blk_put (cs := #[.int .i64 t178, .int .i64 t179, .int .i64 t180, .int .i64 0, .int .i64 0]) ?_ 3 _ rfl; (with_reducible repeat (first | refine blk_drewN ?_ _ | refine blk_drew ?_ | refine blk_alloc ?_ _)); refine blk_put (cs := #[.int .i64 t178, .int .i64 t179, .int .i64 0, .int .i64 0, .int .i64 0]) ?_ 2 _ rfl; (with_reducible repeat (first | refine blk_drewN ?_ _ | refine blk_drew ?_ | refine blk_alloc ?_ _)); refine blk_put (cs := #[.int .i64 t178, .int .i64 0, .int .i64 0, .int .i64 0, .int .i64 0]) ?_ 1 _ rfl; (with_reducible repeat (first | refine blk_drewN ?_ _ | refine blk_drew ?_ | refine blk_alloc ?_ _)); refine blk_put (cs := #[.int .i64 0, .int .i64 0, .int .i64 0, .int .i64 0, .int .i64 0]) ?_ 0 _ rfl; (with_reducible repeat (first | refine blk_drewN ?_ _ | refine blk_drew ?_ | refine blk_alloc ?_ _)); exact BK143.out) Try.underlying28 rfl (by kernel_rfl)) rfl ?_
                                exact ⟨by first | rfl | (simp [errW_none, errW_some] <;> rfl) | (simp [*, errW_none, errW_some] <;> rfl), by repeat (first | (with_reducible first | exact HB.out | apply below_alloc | apply pw_below_drewN | apply below_drew1 | refine below_set ?_ GE142.out | refine below_set ?_ GE143.out) | exact HB.out)⟩
                              · replace c64 := Bool.eq_false_iff.mpr c64
                                subst c64
                                have H1 : (if a0_7 = 1 then ((estoversref26_write.f kj50 a0_0 true a0_2 a0_3 a0_4 a0_5 a0_6 a0_7 a0_8 false a0_10 a0_11 a0_12 a0_13 a0_14 a0_15 a0_16).bind fun bt184 => (some (bt184.1, bt184.2.1, bt184.2.2.1, bt184.2.2.2.1, bt184.2.2.2.2.1, bt184.2.2.2.2.2))) else (if a0_7 = 2 then (if a0_12 = true then ((estoversref26_plan.f 10 0 0).bind fun bt190 => (some (bt190.1, bt190.2.1, bt190.2.2.1, bt190.2.2.2.1, bt190.2.2.2.2.1, bt190.2.2.2.2.2))) else ((estoversref26_plan.f 11 0 1).bind fun bt196 => (some (bt196.1, bt196.2.1, bt196.2.2.1, bt196.2.2.2.1, bt196.2.2.2.2.1, bt196.2.2.2.2.2)))) else (if a0_4 = true then (if a0_12 = true then ((estoversref26_plan.f 6 a0_16 0).bind fun bt208 => (some (bt208.1, bt208.2.1, bt208.2.2.1, bt208.2.2.2.1, bt208.2.2.2.2.1, bt208.2.2.2.2.2))) else (if a0_13 = true then ((estoversref26_plan.f 5 0 1).bind fun bt214 => (some (bt214.1, bt214.2.1, bt214.2.2.1, bt214.2.2.2.1, bt214.2.2.2.2.1, bt214.2.2.2.2.2))) else ((estoversref26_plan.f 4 a0_16 1).bind fun bt220 => (some (bt220.1, bt220.2.1, bt220.2.2.1, bt220.2.2.2.1, bt220.2.2.2.2.1, bt220.2.2.2.2.2))))) else ((estoversref26_plan.f 3 a0_16 1).bind fun bt202 => (some (bt202.1, bt202.2.1, bt202.2.2.1, bt202.2.2.2.1, bt202.2.2.2.2.1, bt202.2.2.2.2.2)))))) = some (r1, r2, r3, r4, r5, r6) := by rw [if_neg (show ¬ (false = true) by decide)] at H; exact H
                                clear H
                                have H := H1
                                clear H1
                                by_cases c70 : a0_7 = 1
                                · rw [if_pos c70] at H
                                  have c70b0 : (a0_7 == 1) = true := beq_iff_eq.mpr c70
                                  have c70b1 : (a0_7 != 1) = false := bne_eq_false_iff_eq.mpr c70
                                  clear c70
                                  replace H := Option.bind_eq_some_iff.mp H
                                  obtain ⟨⟨t184, t185, t186, t187, t188, t189⟩, A710, H⟩ := H
                                  replace H : (some (t184, t185, t186, t187, t188, t189)) = some (r1, r2, r3, r4, r5, r6) := H
                                  have A71 := Aside0.mk A710
                                  clear A710
                                  simp only [Option.some.injEq, Prod.mk.injEq] at H
                                  obtain ⟨rfl, rfl, rfl, rfl, rfl, rfl⟩ := H
                                  have hnb72 := NB142_143.out
                                  have hnc72 := NB143_142.out
                                  have hcz73_0 : wc.cell? ⟨gb142, 0, none⟩ = some (.bool a0_0) := (blk_cell BK142.out 0).trans rfl
                                  have hcz73_1 : wc.cell? ⟨gb142, 1, none⟩ = some (.bool true) := (blk_cell BK142.out 1).trans rfl
                                  have hcz73_2 : wc.cell? ⟨gb142, 2, none⟩ = some (.int .i64 a0_2) := (blk_cell BK142.out 2).trans rfl
                                  have hcz73_3 : wc.cell? ⟨gb142, 3, none⟩ = some (.bool a0_3) := (blk_cell BK142.out 3).trans rfl
                                  have hcz73_4 : wc.cell? ⟨gb142, 4, none⟩ = some (.bool a0_4) := (blk_cell BK142.out 4).trans rfl
                                  have hcz73_5 : wc.cell? ⟨gb142, 5, none⟩ = some (.bool a0_5) := (blk_cell BK142.out 5).trans rfl
                                  have hcz73_6 : wc.cell? ⟨gb142, 6, none⟩ = some (.bool a0_6) := (blk_cell BK142.out 6).trans rfl
                                  have hcz73_7 : wc.cell? ⟨gb142, 7, none⟩ = some (.int .i64 a0_7) := (blk_cell BK142.out 7).trans rfl
                                  have hcz73_8 : wc.cell? ⟨gb142, 8, none⟩ = some (.bool a0_8) := (blk_cell BK142.out 8).trans rfl
                                  have hcz73_9 : wc.cell? ⟨gb142, 9, none⟩ = some (.bool false) := (blk_cell BK142.out 9).trans rfl
                                  have hcz73_10 : wc.cell? ⟨gb142, 10, none⟩ = some (.bool a0_10) := (blk_cell BK142.out 10).trans rfl
                                  have hcz73_11 : wc.cell? ⟨gb142, 11, none⟩ = some (.bool a0_11) := (blk_cell BK142.out 11).trans rfl
                                  have hcz73_12 : wc.cell? ⟨gb142, 12, none⟩ = some (.bool a0_12) := (blk_cell BK142.out 12).trans rfl
                                  have hcz73_13 : wc.cell? ⟨gb142, 13, none⟩ = some (.bool a0_13) := (blk_cell BK142.out 13).trans rfl
                                  have hcz73_14 : wc.cell? ⟨gb142, 14, none⟩ = some (.bool a0_14) := (blk_cell BK142.out 14).trans rfl
                                  have hcz73_15 : wc.cell? ⟨gb142, 15, none⟩ = some (.bool a0_15) := (blk_cell BK142.out 15).trans rfl
                                  have hcz73_16 : wc.cell? ⟨gb142, 16, none⟩ = some (.int .i64 a0_16) := (blk_cell BK142.out 16).trans rfl
                                  have hfz73_0 := blk_frozen BK142.out 0
                                  have hfz73_1 := blk_frozen BK142.out 1
                                  have hfz73_2 := blk_frozen BK142.out 2
                                  have hfz73_3 := blk_frozen BK142.out 3
                                  have hfz73_4 := blk_frozen BK142.out 4
                                  have hfz73_5 := blk_frozen BK142.out 5
                                  have hfz73_6 := blk_frozen BK142.out 6
                                  have hfz73_7 := blk_frozen BK142.out 7
                                  have hfz73_8 := blk_frozen BK142.out 8
                                  have hfz73_9 := blk_frozen BK142.out 9
                                  have hfz73_10 := blk_frozen BK142.out 10
                                  have hfz73_11 := blk_frozen BK142.out 11
                                  have hfz73_12 := blk_frozen BK142.out 12
                                  have hfz73_13 := blk_frozen BK142.out 13
                                  have hfz73_14 := blk_frozen BK142.out 14
                                  have hfz73_15 := blk_frozen BK142.out 15
                                  have hfz73_16 := blk_frozen BK142.out 16
                                  go_wp2_with (first | ((with_reducible refine gate_callee (f := 25) rfl ?_); refine goesL_ (some 72) rfl rfl Try.func25 (by kernel_rfl) rfl #[.agg #[.bool a0_0, .bool true, .int .i64 a0_2, .bool a0_3, .bool a0_4, .bool a0_5, .bool a0_6, .int .i64 a0_7, .bool a0_8, .bool false, .bool a0_10, .bool a0_11, .bool a0_12, .bool a0_13, .bool a0_14, .bool a0_15, .int .i64 a0_16]] rfl (by (try simp only [List.map_toArray, List.map_cons, List.map_nil]); first | done | rfl | (simp only [List.length_drop, List.length_take]; rfl)) ?_; (with_reducible refine (estoversref26_write.calls kj50 a0_0 true a0_2 a0_3 a0_4 a0_5 a0_6 a0_7 a0_8 false a0_10 a0_11 a0_12 a0_13 a0_14 a0_15 a0_16 t184 t185 t186 t187 t188 t189 _ A71.out).mono ?_); rintro e w74 ⟨rfl, hb⟩; refine ⟨_, rfl, ?_⟩; have n0_ := Aside0.mk (blk_below (g := gb142) (o := .cells #[.bool a0_0, .bool true, .int .i64 a0_2, .bool a0_3, .bool a0_4, .bool a0_5, .bool a0_6, .int .i64 a0_7, .bool a0_8, .bool false, .bool a0_10, .bool a0_11, .bool a0_12, .bool a0_13, .bool a0_14, .bool a0_15, .int .i64 a0_16] 23 (0, 0)) (by (with_reducible repeat (first | refine blk_drewN ?_ _ | refine blk_drew ?_ | refine blk_alloc ?_ _)); exact BK142.out) hb); have n1_ := Aside0.mk (blk_below (g := gb143) (o := .cells #[.int .i64 0, .int .i64 0, .int .i64 0, .int .i64 0, .int .i64 0] 28 (0, 0)) (by (with_reducible repeat (first | refine blk_drewN ?_ _ | refine blk_drew ?_ | refine blk_alloc ?_ _)); exact BK143.out) hb); have n2_ := Aside0.mk (below_step (by repeat (first | (with_reducible first | exact HB.out | apply below_alloc | apply pw_below_drewN | apply below_drew1 | refine below_set ?_ GE142.out | refine below_set ?_ GE143.out) | exact HB.out)) hb); clear BK142; clear BK143; clear HB; have BK142 := n0_; have BK143 := n1_; have HB := n2_; clear n0_ n1_ n2_; (try clear hb); (try clear hb2); (try clear hk); (try clear hi); have hcz75_0 : w74.cell? ⟨gb143, 0, none⟩ = some (.int .i64 0) := (blk_cell BK143.out 0).trans rfl; have hcz75_1 : w74.cell? ⟨gb143, 1, none⟩ = some (.int .i64 0) := (blk_cell BK143.out 1).trans rfl; have hcz75_2 : w74.cell? ⟨gb143, 2, none⟩ = some (.int .i64 0) := (blk_cell BK143.out 2).trans rfl; have hcz75_3 : w74.cell? ⟨gb143, 3, none⟩ = some (.int .i64 0) := (blk_cell BK143.out 3).trans rfl; have hcz75_4 : w74.cell? ⟨gb143, 4, none⟩ = some (.int .i64 0) := (blk_cell BK143.out 4).trans rfl; have hfz75_0 := blk_frozen BK143.out 0; have hfz75_1 := blk_frozen BK143.out 1; have hfz75_2 := blk_frozen BK143.out 2; have hfz75_3 := blk_frozen BK143.out 3; have hfz75_4 := blk_frozen BK143.out 4))
                                  refine bodyPost_ret (results_ct rfl _ _ gb143 28 #[.int .i64 t184, .int .i64 t185, .int .i64 t186, .int .i64 t187, .int .i64 t188] (0, 0) _ rfl (by (with_reducible repeat (first | refine blk_drewN ?_ _ | refine blk_drew ?_ | refine blk_alloc ?_ _)); refine blk_put (cs := #[.int .i64 t184, .int .i64 t185, .int .i64 t186, .int .i64 t187, .int .i64 0]) ?_ 4 _ rfl; (with_reducible repeat (first | refine blk_drewN ?_ _ | refine blk_drew ?_ | refine blk_alloc ?_ _)); refine blk_put (cs := #[.int .i64 t184, .int .i64 t185, .int .i64 t186, .int .i64 0, .int .i64 0]) ?_ 3 _ rfl; (with_reducible repeat (first | refine blk_drewN ?_ _ | refine blk_drew ?_ | refine blk_alloc ?_ _)); refine blk_put (cs := #[.int .i64 t184, .int .i64 t185, .int .i64 0, .int .i64 0, .int .i64 0]) ?_ 2 _ rfl; (with_reducible repeat (first | refine blk_drewN ?_ _ | refine blk_drew ?_ | refine blk_alloc ?_ _)); refine blk_put (cs := #[.int .i64 t184, .int .i64 0, .int .i64 0, .int .i64 0, .int .i64 0]) ?_ 1 _ rfl; (with_reducible repeat (first | refine blk_drewN ?_ _ | refine blk_drew ?_ | refine blk_alloc ?_ _)); refine blk_put (cs := #[.int .i64 0, .int .i64 0, .int .i64 0, .int .i64 0, .int .i64 0]) ?_ 0 _ rfl; (with_reducible repeat (first | refine blk_drewN ?_ _ | refine blk_drew ?_ | refine blk_alloc ?_ _)); exact BK143.out) Try.underlying28 rfl (by kernel_rfl)) rfl ?_
                                  exact ⟨by first | rfl | (simp [errW_none, errW_some] <;> rfl) | (simp [*, errW_none, errW_some] <;> rfl), by repeat (first | (with_reducible first | exact HB.out | apply below_alloc | apply pw_below_drewN | apply below_drew1 | refine below_set ?_ GE142.out | refine below_set ?_ GE143.out) | exact HB.out)⟩
                                · rw [if_neg c70] at H
                                  have c70b0 : (a0_7 == 1) = false := beq_eq_false_iff_ne.mpr c70
                                  have c70b1 : (a0_7 != 1) = true := bne_iff_ne.mpr c70
                                  by_cases c76 : a0_7 = 2
                                  · rw [if_pos c76] at H
                                    have c76b0 : (a0_7 == 2) = true := beq_iff_eq.mpr c76
                                    have c76b1 : (a0_7 != 2) = false := bne_eq_false_iff_eq.mpr c76
                                    clear c76
                                    by_cases c77 : a0_12 = true
                                    · subst c77
                                      have H1 : ((estoversref26_plan.f 10 0 0).bind fun bt190 => (some (bt190.1, bt190.2.1, bt190.2.2.1, bt190.2.2.2.1, bt190.2.2.2.2.1, bt190.2.2.2.2.2))) = some (r1, r2, r3, r4, r5, r6) := by rw [if_pos rfl] at H; exact H
                                      clear H
                                      have H := H1
                                      clear H1
                                      replace H := Option.bind_eq_some_iff.mp H
                                      obtain ⟨⟨t190, t191, t192, t193, t194, t195⟩, A780, H⟩ := H
                                      replace H : (some (t190, t191, t192, t193, t194, t195)) = some (r1, r2, r3, r4, r5, r6) := H
                                      have A78 := Aside0.mk A780
                                      clear A780
                                      simp only [Option.some.injEq, Prod.mk.injEq] at H
                                      obtain ⟨rfl, rfl, rfl, rfl, rfl, rfl⟩ := H
                                      have hnb79 := NB142_143.out
                                      have hnc79 := NB143_142.out
                                      have hcz80_0 : wc.cell? ⟨gb142, 0, none⟩ = some (.bool a0_0) := (blk_cell BK142.out 0).trans rfl
                                      have hcz80_1 : wc.cell? ⟨gb142, 1, none⟩ = some (.bool true) := (blk_cell BK142.out 1).trans rfl
                                      have hcz80_2 : wc.cell? ⟨gb142, 2, none⟩ = some (.int .i64 a0_2) := (blk_cell BK142.out 2).trans rfl
                                      have hcz80_3 : wc.cell? ⟨gb142, 3, none⟩ = some (.bool a0_3) := (blk_cell BK142.out 3).trans rfl
                                      have hcz80_4 : wc.cell? ⟨gb142, 4, none⟩ = some (.bool a0_4) := (blk_cell BK142.out 4).trans rfl
                                      have hcz80_5 : wc.cell? ⟨gb142, 5, none⟩ = some (.bool a0_5) := (blk_cell BK142.out 5).trans rfl
                                      have hcz80_6 : wc.cell? ⟨gb142, 6, none⟩ = some (.bool a0_6) := (blk_cell BK142.out 6).trans rfl
                                      have hcz80_7 : wc.cell? ⟨gb142, 7, none⟩ = some (.int .i64 a0_7) := (blk_cell BK142.out 7).trans rfl
                                      have hcz80_8 : wc.cell? ⟨gb142, 8, none⟩ = some (.bool a0_8) := (blk_cell BK142.out 8).trans rfl
                                      have hcz80_9 : wc.cell? ⟨gb142, 9, none⟩ = some (.bool false) := (blk_cell BK142.out 9).trans rfl
                                      have hcz80_10 : wc.cell? ⟨gb142, 10, none⟩ = some (.bool a0_10) := (blk_cell BK142.out 10).trans rfl
                                      have hcz80_11 : wc.cell? ⟨gb142, 11, none⟩ = some (.bool a0_11) := (blk_cell BK142.out 11).trans rfl
                                      have hcz80_12 : wc.cell? ⟨gb142, 12, none⟩ = some (.bool true) := (blk_cell BK142.out 12).trans rfl
                                      have hcz80_13 : wc.cell? ⟨gb142, 13, none⟩ = some (.bool a0_13) := (blk_cell BK142.out 13).trans rfl
                                      have hcz80_14 : wc.cell? ⟨gb142, 14, none⟩ = some (.bool a0_14) := (blk_cell BK142.out 14).trans rfl
                                      have hcz80_15 : wc.cell? ⟨gb142, 15, none⟩ = some (.bool a0_15) := (blk_cell BK142.out 15).trans rfl
                                      have hcz80_16 : wc.cell? ⟨gb142, 16, none⟩ = some (.int .i64 a0_16) := (blk_cell BK142.out 16).trans rfl
                                      have hfz80_0 := blk_frozen BK142.out 0
                                      have hfz80_1 := blk_frozen BK142.out 1
                                      have hfz80_2 := blk_frozen BK142.out 2
                                      have hfz80_3 := blk_frozen BK142.out 3
                                      have hfz80_4 := blk_frozen BK142.out 4
                                      have hfz80_5 := blk_frozen BK142.out 5
                                      have hfz80_6 := blk_frozen BK142.out 6
                                      have hfz80_7 := blk_frozen BK142.out 7
                                      have hfz80_8 := blk_frozen BK142.out 8
                                      have hfz80_9 := blk_frozen BK142.out 9
                                      have hfz80_10 := blk_frozen BK142.out 10
                                      have hfz80_11 := blk_frozen BK142.out 11
                                      have hfz80_12 := blk_frozen BK142.out 12
                                      have hfz80_13 := blk_frozen BK142.out 13
                                      have hfz80_14 := blk_frozen BK142.out 14
                                      have hfz80_15 := blk_frozen BK142.out 15
                                      have hfz80_16 := blk_frozen BK142.out 16
                                      go_wp2_with (first | ((with_reducible refine gate_callee (f := 23) rfl ?_); refine goesL_ (some 79) rfl rfl Try.func23 (by kernel_rfl) rfl #[.int .i64 10, .int .i64 0, .int .i64 0] rfl (by (try simp only [List.map_toArray, List.map_cons, List.map_nil]); first | done | rfl | (simp only [List.length_drop, List.length_take]; rfl)) ?_; (with_reducible refine (estoversref26_plan.calls 10 0 0 t190 t191 t192 t193 t194 t195 _ A78.out).mono ?_); rintro e w81 ⟨rfl, hb⟩; refine ⟨_, rfl, ?_⟩; have n0_ := Aside0.mk (blk_below (g := gb142) (o := .cells #[.bool a0_0, .bool true, .int .i64 a0_2, .bool a0_3, .bool a0_4, .bool a0_5, .bool a0_6, .int .i64 a0_7, .bool a0_8, .bool false, .bool a0_10, .bool a0_11, .bool true, .bool a0_13, .bool a0_14, .bool a0_15, .int .i64 a0_16] 23 (0, 0)) (by (with_reducible repeat (first | refine blk_drewN ?_ _ | refine blk_drew ?_ | refine blk_alloc ?_ _)); exact BK142.out) hb); have n1_ := Aside0.mk (blk_below (g := gb143) (o := .cells #[.int .i64 0, .int .i64 0, .int .i64 0, .int .i64 0, .int .i64 0] 28 (0, 0)) (by (with_reducible repeat (first | refine blk_drewN ?_ _ | refine blk_drew ?_ | refine blk_alloc ?_ _)); exact BK143.out) hb); have n2_ := Aside0.mk (below_step (by repeat (first | (with_reducible first | exact HB.out | apply below_alloc | apply pw_below_drewN | apply below_drew1 | refine below_set ?_ GE142.out | refine below_set ?_ GE143.out) | exact HB.out)) hb); clear BK142; clear BK143; clear HB; have BK142 := n0_; have BK143 := n1_; have HB := n2_; clear n0_ n1_ n2_; (try clear hb); (try clear hb2); (try clear hk); (try clear hi); have hcz82_0 : w81.cell? ⟨gb143, 0, none⟩ = some (.int .i64 0) := (blk_cell BK143.out 0).trans rfl; have hcz82_1 : w81.cell? ⟨gb143, 1, none⟩ = some (.int .i64 0) := (blk_cell BK143.out 1).trans rfl; have hcz82_2 : w81.cell? ⟨gb143, 2, none⟩ = some (.int .i64 0) := (blk_cell BK143.out 2).trans rfl; have hcz82_3 : w81.cell? ⟨gb143, 3, none⟩ = some (.int .i64 0) := (blk_cell BK143.out 3).trans rfl; have hcz82_4 : w81.cell? ⟨gb143, 4, none⟩ = some (.int .i64 0) := (blk_cell BK143.out 4).trans rfl; have hfz82_0 := blk_frozen BK143.out 0; have hfz82_1 := blk_frozen BK143.out 1; have hfz82_2 := blk_frozen BK143.out 2; have hfz82_3 := blk_frozen BK143.out 3; have hfz82_4 := blk_frozen BK143.out 4))
                                      refine bodyPost_ret (results_ct rfl _ _ gb143 28 #[.int .i64 t190, .int .i64 t191, .int .i64 t192, .int .i64 t193, .int .i64 t194] (0, 0) _ rfl (by (with_reducible repeat (first | refine blk_drewN ?_ _ | refine blk_drew ?_ | refine blk_alloc ?_ _)); refine blk_put (cs := #[.int .i64 t190, .int .i64 t191, .int .i64 t192, .int .i64 t193, .int .i64 0]) ?_ 4 _ rfl; (with_reducible repeat (first | refine blk_drewN ?_ _ | refine blk_drew ?_ | refine blk_alloc ?_ _)); refine blk_put (cs := #[.int .i64 t190, .int .i64 t191, .int .i64 t192, .int .i64 0, .int .i64 0]) ?_ 3 _ rfl; (with_reducible repeat (first | refine blk_drewN ?_ _ | refine blk_drew ?_ | refine blk_alloc ?_ _)); refine blk_put (cs := #[.int .i64 t190, .int .i64 t191, .int .i64 0, .int .i64 0, .int .i64 0]) ?_ 2 _ rfl; (with_reducible repeat (first | refine blk_drewN ?_ _ | refine blk_drew ?_ | refine blk_alloc ?_ _)); refine blk_put (cs := #[.int .i64 t190, .int .i64 0, .int .i64 0, .int .i64 0, .int .i64 0]) ?_ 1 _ rfl; (with_reducible repeat (first | refine blk_drewN ?_ _ | refine blk_drew ?_ | refine blk_alloc ?_ _)); refine blk_put (cs := #[.int .i64 0, .int .i64 0, .int .i64 0, .int .i64 0, .int .i64 0]) ?_ 0 _ rfl; (with_reducible repeat (first | refine blk_drewN ?_ _ | refine blk_drew ?_ | refine blk_alloc ?_ _)); exact BK143.out) Try.underlying28 rfl (by kernel_rfl)) rfl ?_
                                      exact ⟨by first | rfl | (simp [errW_none, errW_some] <;> rfl) | (simp [*, errW_none, errW_some] <;> rfl), by repeat (first | (with_reducible first | exact HB.out | apply below_alloc | apply pw_below_drewN | apply below_drew1 | refine below_set ?_ GE142.out | refine below_set ?_ GE143.out) | exact HB.out)⟩
                                    · replace c77 := Bool.eq_false_iff.mpr c77
                                      subst c77
                                      have H1 : ((estoversref26_plan.f 11 0 1).bind fun bt196 => (some (bt196.1, bt196.2.1, bt196.2.2.1, bt196.2.2.2.1, bt196.2.2.2.2.1, bt196.2.2.2.2.2))) = some (r1, r2, r3, r4, r5, r6) := by rw [if_neg (show ¬ (false = true) by decide)] at H; exact H
                                      clear H
                                      have H := H1
                                      clear H1
                                      replace H := Option.bind_eq_some_iff.mp H
                                      obtain ⟨⟨t196, t197, t198, t199, t200, t201⟩, A830, H⟩ := H
                                      replace H : (some (t196, t197, t198, t199, t200, t201)) = some (r1, r2, r3, r4, r5, r6) := H
                                      have A83 := Aside0.mk A830
                                      clear A830
                                      simp only [Option.some.injEq, Prod.mk.injEq] at H
                                      obtain ⟨rfl, rfl, rfl, rfl, rfl, rfl⟩ := H
                                      have hnb84 := NB142_143.out
                                      have hnc84 := NB143_142.out
                                      have hcz85_0 : wc.cell? ⟨gb142, 0, none⟩ = some (.bool a0_0) := (blk_cell BK142.out 0).trans rfl
                                      have hcz85_1 : wc.cell? ⟨gb142, 1, none⟩ = some (.bool true) := (blk_cell BK142.out 1).trans rfl
                                      have hcz85_2 : wc.cell? ⟨gb142, 2, none⟩ = some (.int .i64 a0_2) := (blk_cell BK142.out 2).trans rfl
                                      have hcz85_3 : wc.cell? ⟨gb142, 3, none⟩ = some (.bool a0_3) := (blk_cell BK142.out 3).trans rfl
                                      have hcz85_4 : wc.cell? ⟨gb142, 4, none⟩ = some (.bool a0_4) := (blk_cell BK142.out 4).trans rfl
                                      have hcz85_5 : wc.cell? ⟨gb142, 5, none⟩ = some (.bool a0_5) := (blk_cell BK142.out 5).trans rfl
                                      have hcz85_6 : wc.cell? ⟨gb142, 6, none⟩ = some (.bool a0_6) := (blk_cell BK142.out 6).trans rfl
                                      have hcz85_7 : wc.cell? ⟨gb142, 7, none⟩ = some (.int .i64 a0_7) := (blk_cell BK142.out 7).trans rfl
                                      have hcz85_8 : wc.cell? ⟨gb142, 8, none⟩ = some (.bool a0_8) := (blk_cell BK142.out 8).trans rfl
                                      have hcz85_9 : wc.cell? ⟨gb142, 9, none⟩ = some (.bool false) := (blk_cell BK142.out 9).trans rfl
                                      have hcz85_10 : wc.cell? ⟨gb142, 10, none⟩ = some (.bool a0_10) := (blk_cell BK142.out 10).trans rfl
                                      have hcz85_11 : wc.cell? ⟨gb142, 11, none⟩ = some (.bool a0_11) := (blk_cell BK142.out 11).trans rfl
                                      have hcz85_12 : wc.cell? ⟨gb142, 12, none⟩ = some (.bool false) := (blk_cell BK142.out 12).trans rfl
                                      have hcz85_13 : wc.cell? ⟨gb142, 13, none⟩ = some (.bool a0_13) := (blk_cell BK142.out 13).trans rfl
                                      have hcz85_14 : wc.cell? ⟨gb142, 14, none⟩ = some (.bool a0_14) := (blk_cell BK142.out 14).trans rfl
                                      have hcz85_15 : wc.cell? ⟨gb142, 15, none⟩ = some (.bool a0_15) := (blk_cell BK142.out 15).trans rfl
                                      have hcz85_16 : wc.cell? ⟨gb142, 16, none⟩ = some (.int .i64 a0_16) := (blk_cell BK142.out 16).trans rfl
                                      have hfz85_0 := blk_frozen BK142.out 0
                                      have hfz85_1 := blk_frozen BK142.out 1
                                      have hfz85_2 := blk_frozen BK142.out 2
                                      have hfz85_3 := blk_frozen BK142.out 3
                                      have hfz85_4 := blk_frozen BK142.out 4
                                      have hfz85_5 := blk_frozen BK142.out 5
                                      have hfz85_6 := blk_frozen BK142.out 6
                                      have hfz85_7 := blk_frozen BK142.out 7
                                      have hfz85_8 := blk_frozen BK142.out 8
                                      have hfz85_9 := blk_frozen BK142.out 9
                                      have hfz85_10 := blk_frozen BK142.out 10
                                      have hfz85_11 := blk_frozen BK142.out 11
                                      have hfz85_12 := blk_frozen BK142.out 12
                                      have hfz85_13 := blk_frozen BK142.out 13
                                      have hfz85_14 := blk_frozen BK142.out 14
                                      have hfz85_15 := blk_frozen BK142.out 15
                                      have hfz85_16 := blk_frozen BK142.out 16
                                      go_wp2_with (first | ((with_reducible refine gate_callee (f := 23) rfl ?_); refine goesL_ (some 82) rfl rfl Try.func23 (by kernel_rfl) rfl #[.int .i64 11, .int .i64 0, .int .i64 1] rfl (by (try simp only [List.map_toArray, List.map_cons, List.map_nil]); first | done | rfl | (simp only [List.length_drop, List.length_take]; rfl)) ?_; (with_reducible refine (estoversref26_plan.calls 11 0 1 t196 t197 t198 t199 t200 t201 _ A83.out).mono ?_); rintro e w86 ⟨rfl, hb⟩; refine ⟨_, rfl, ?_⟩; have n0_ := Aside0.mk (blk_below (g := gb142) (o := .cells #[.bool a0_0, .bool true, .int .i64 a0_2, .bool a0_3, .bool a0_4, .bool a0_5, .bool a0_6, .int .i64 a0_7, .bool a0_8, .bool false, .bool a0_10, .bool a0_11, .bool false, .bool a0_13, .bool a0_14, .bool a0_15, .int .i64 a0_16] 23 (0, 0)) (by (with_reducible repeat (first | refine blk_drewN ?_ _ | refine blk_drew ?_ | refine blk_alloc ?_ _)); exact BK142.out) hb); have n1_ := Aside0.mk (blk_below (g := gb143) (o := .cells #[.int .i64 0, .int .i64 0, .int .i64 0, .int .i64 0, .int .i64 0] 28 (0, 0)) (by (with_reducible repeat (first | refine blk_drewN ?_ _ | refine blk_drew ?_ | refine blk_alloc ?_ _)); exact BK143.out) hb); have n2_ := Aside0.mk (below_step (by repeat (first | (with_reducible first | exact HB.out | apply below_alloc | apply pw_below_drewN | apply below_drew1 | refine below_set ?_ GE142.out | refine below_set ?_ GE143.out) | exact HB.out)) hb); clear BK142; clear BK143; clear HB; have BK142 := n0_; have BK143 := n1_; have HB := n2_; clear n0_ n1_ n2_; (try clear hb); (try clear hb2); (try clear hk); (try clear hi); have hcz87_0 : w86.cell? ⟨gb143, 0, none⟩ = some (.int .i64 0) := (blk_cell BK143.out 0).trans rfl; have hcz87_1 : w86.cell? ⟨gb143, 1, none⟩ = some (.int .i64 0) := (blk_cell BK143.out 1).trans rfl; have hcz87_2 : w86.cell? ⟨gb143, 2, none⟩ = some (.int .i64 0) := (blk_cell BK143.out 2).trans rfl; have hcz87_3 : w86.cell? ⟨gb143, 3, none⟩ = some (.int .i64 0) := (blk_cell BK143.out 3).trans rfl; have hcz87_4 : w86.cell? ⟨gb143, 4, none⟩ = some (.int .i64 0) := (blk_cell BK143.out 4).trans rfl; have hfz87_0 := blk_frozen BK143.out 0; have hfz87_1 := blk_frozen BK143.out 1; have hfz87_2 := blk_frozen BK143.out 2; have hfz87_3 := blk_frozen BK143.out 3; have hfz87_4 := blk_frozen BK143.out 4))
                                      refine bodyPost_ret (results_ct rfl _ _ gb143 28 #[.int .i64 t196, .int .i64 t197, .int .i64 t198, .int .i64 t199, .int .i64 t200] (0, 0) _ rfl (by (with_reducible repeat (first | refine blk_drewN ?_ _ | refine blk_drew ?_ | refine blk_alloc ?_ _)); refine blk_put (cs := #[.int .i64 t196, .int .i64 t197, .int .i64 t198, .int .i64 t199, .int .i64 0]) ?_ 4 _ rfl; (with_reducible repeat (first | refine blk_drewN ?_ _ | refine blk_drew ?_ | refine blk_alloc ?_ _)); refine blk_put (cs := #[.int .i64 t196, .int .i64 t197, .int .i64 t198, .int .i64 0, .int .i64 0]) ?_ 3 _ rfl; (with_reducible repeat (first | refine blk_drewN ?_ _ | refine blk_drew ?_ | refine blk_alloc ?_ _)); refine blk_put (cs := #[.int .i64 t196, .int .i64 t197, .int .i64 0, .int .i64 0, .int .i64 0]) ?_ 2 _ rfl; (with_reducible repeat (first | refine blk_drewN ?_ _ | refine blk_drew ?_ | refine blk_alloc ?_ _)); refine blk_put (cs := #[.int .i64 t196, .int .i64 0, .int .i64 0, .int .i64 0, .int .i64 0]) ?_ 1 _ rfl; (with_reducible repeat (first | refine blk_drewN ?_ _ | refine blk_drew ?_ | refine blk_alloc ?_ _)); refine blk_put (cs := #[.int .i64 0, .int .i64 0, .int .i64 0, .int .i64 0, .int .i64 0]) ?_ 0 _ rfl; (with_reducible repeat (first | refine blk_drewN ?_ _ | refine blk_drew ?_ | refine blk_alloc ?_ _)); exact BK143.out) Try.underlying28 rfl (by kernel_rfl)) rfl ?_
                                      exact ⟨by first | rfl | (simp [errW_none, errW_some] <;> rfl) | (simp [*, errW_none, errW_some] <;> rfl), by repeat (first | (with_reducible first | exact HB.out | apply below_alloc | apply pw_below_drewN | apply below_drew1 | refine below_set ?_ GE142.out | refine below_set ?_ GE143.out) | exact HB.out)⟩
                                  · rw [if_neg c76] at H
                                    have c76b0 : (a0_7 == 2) = false := beq_eq_false_iff_ne.mpr c76
                                    have c76b1 : (a0_7 != 2) = true := bne_iff_ne.mpr c76
                                    by_cases c88 : a0_4 = true
                                    · subst c88
                                      have H1 : (if a0_12 = true then ((estoversref26_plan.f 6 a0_16 0).bind fun bt208 => (some (bt208.1, bt208.2.1, bt208.2.2.1, bt208.2.2.2.1, bt208.2.2.2.2.1, bt208.2.2.2.2.2))) else (if a0_13 = true then ((estoversref26_plan.f 5 0 1).bind fun bt214 => (some (bt214.1, bt214.2.1, bt214.2.2.1, bt214.2.2.2.1, bt214.2.2.2.2.1, bt214.2.2.2.2.2))) else ((estoversref26_plan.f 4 a0_16 1).bind fun bt220 => (some (bt220.1, bt220.2.1, bt220.2.2.1, bt220.2.2.2.1, bt220.2.2.2.2.1, bt220.2.2.2.2.2))))) = some (r1, r2, r3, r4, r5, r6) := by rw [if_pos rfl] at H; exact H
                                      clear H
                                      have H := H1
                                      clear H1
                                      by_cases c89 : a0_12 = true
                                      · subst c89
                                        have H1 : ((estoversref26_plan.f 6 a0_16 0).bind fun bt208 => (some (bt208.1, bt208.2.1, bt208.2.2.1, bt208.2.2.2.1, bt208.2.2.2.2.1, bt208.2.2.2.2.2))) = some (r1, r2, r3, r4, r5, r6) := by rw [if_pos rfl] at H; exact H
                                        clear H
                                        have H := H1
                                        clear H1
                                        replace H := Option.bind_eq_some_iff.mp H
                                        obtain ⟨⟨t208, t209, t210, t211, t212, t213⟩, A900, H⟩ := H
                                        replace H : (some (t208, t209, t210, t211, t212, t213)) = some (r1, r2, r3, r4, r5, r6) := H
                                        have A90 := Aside0.mk A900
                                        clear A900
                                        simp only [Option.some.injEq, Prod.mk.injEq] at H
                                        obtain ⟨rfl, rfl, rfl, rfl, rfl, rfl⟩ := H
                                        have hnb91 := NB142_143.out
                                        have hnc91 := NB143_142.out
                                        have hcz92_0 : wc.cell? ⟨gb142, 0, none⟩ = some (.bool a0_0) := (blk_cell BK142.out 0).trans rfl
                                        have hcz92_1 : wc.cell? ⟨gb142, 1, none⟩ = some (.bool true) := (blk_cell BK142.out 1).trans rfl
                                        have hcz92_2 : wc.cell? ⟨gb142, 2, none⟩ = some (.int .i64 a0_2) := (blk_cell BK142.out 2).trans rfl
                                        have hcz92_3 : wc.cell? ⟨gb142, 3, none⟩ = some (.bool a0_3) := (blk_cell BK142.out 3).trans rfl
                                        have hcz92_4 : wc.cell? ⟨gb142, 4, none⟩ = some (.bool true) := (blk_cell BK142.out 4).trans rfl
                                        have hcz92_5 : wc.cell? ⟨gb142, 5, none⟩ = some (.bool a0_5) := (blk_cell BK142.out 5).trans rfl
                                        have hcz92_6 : wc.cell? ⟨gb142, 6, none⟩ = some (.bool a0_6) := (blk_cell BK142.out 6).trans rfl
                                        have hcz92_7 : wc.cell? ⟨gb142, 7, none⟩ = some (.int .i64 a0_7) := (blk_cell BK142.out 7).trans rfl
                                        have hcz92_8 : wc.cell? ⟨gb142, 8, none⟩ = some (.bool a0_8) := (blk_cell BK142.out 8).trans rfl
                                        have hcz92_9 : wc.cell? ⟨gb142, 9, none⟩ = some (.bool false) := (blk_cell BK142.out 9).trans rfl
                                        have hcz92_10 : wc.cell? ⟨gb142, 10, none⟩ = some (.bool a0_10) := (blk_cell BK142.out 10).trans rfl
                                        have hcz92_11 : wc.cell? ⟨gb142, 11, none⟩ = some (.bool a0_11) := (blk_cell BK142.out 11).trans rfl
                                        have hcz92_12 : wc.cell? ⟨gb142, 12, none⟩ = some (.bool true) := (blk_cell BK142.out 12).trans rfl
                                        have hcz92_13 : wc.cell? ⟨gb142, 13, none⟩ = some (.bool a0_13) := (blk_cell BK142.out 13).trans rfl
                                        have hcz92_14 : wc.cell? ⟨gb142, 14, none⟩ = some (.bool a0_14) := (blk_cell BK142.out 14).trans rfl
                                        have hcz92_15 : wc.cell? ⟨gb142, 15, none⟩ = some (.bool a0_15) := (blk_cell BK142.out 15).trans rfl
                                        have hcz92_16 : wc.cell? ⟨gb142, 16, none⟩ = some (.int .i64 a0_16) := (blk_cell BK142.out 16).trans rfl
                                        have hfz92_0 := blk_frozen BK142.out 0
                                        have hfz92_1 := blk_frozen BK142.out 1
                                        have hfz92_2 := blk_frozen BK142.out 2
                                        have hfz92_3 := blk_frozen BK142.out 3
                                        have hfz92_4 := blk_frozen BK142.out 4
                                        have hfz92_5 := blk_frozen BK142.out 5
                                        have hfz92_6 := blk_frozen BK142.out 6
                                        have hfz92_7 := blk_frozen BK142.out 7
                                        have hfz92_8 := blk_frozen BK142.out 8
                                        have hfz92_9 := blk_frozen BK142.out 9
                                        have hfz92_10 := blk_frozen BK142.out 10
                                        have hfz92_11 := blk_frozen BK142.out 11
                                        have hfz92_12 := blk_frozen BK142.out 12
                                        have hfz92_13 := blk_frozen BK142.out 13
                                        have hfz92_14 := blk_frozen BK142.out 14
                                        have hfz92_15 := blk_frozen BK142.out 15
                                        have hfz92_16 := blk_frozen BK142.out 16
                                        go_wp2_with (first | ((with_reducible refine gate_callee (f := 23) rfl ?_); refine goesL_ (some 97) rfl rfl Try.func23 (by kernel_rfl) rfl #[.int .i64 6, .int .i64 a0_16, .int .i64 0] rfl (by (try simp only [List.map_toArray, List.map_cons, List.map_nil]); first | done | rfl | (simp only [List.length_drop, List.length_take]; rfl)) ?_; (with_reducible refine (estoversref26_plan.calls 6 a0_16 0 t208 t209 t210 t211 t212 t213 _ A90.out).mono ?_); rintro e w93 ⟨rfl, hb⟩; refine ⟨_, rfl, ?_⟩; have n0_ := Aside0.mk (blk_below (g := gb142) (o := .cells #[.bool a0_0, .bool true, .int .i64 a0_2, .bool a0_3, .bool true, .bool a0_5, .bool a0_6, .int .i64 a0_7, .bool a0_8, .bool false, .bool a0_10, .bool a0_11, .bool true, .bool a0_13, .bool a0_14, .bool a0_15, .int .i64 a0_16] 23 (0, 0)) (by (with_reducible repeat (first | refine blk_drewN ?_ _ | refine blk_drew ?_ | refine blk_alloc ?_ _)); exact BK142.out) hb); have n1_ := Aside0.mk (blk_below (g := gb143) (o := .cells #[.int .i64 0, .int .i64 0, .int .i64 0, .int .i64 0, .int .i64 0] 28 (0, 0)) (by (with_reducible repeat (first | refine blk_drewN ?_ _ | refine blk_drew ?_ | refine blk_alloc ?_ _)); exact BK143.out) hb); have n2_ := Aside0.mk (below_step (by repeat (first | (with_reducible first | exact HB.out | apply below_alloc | apply pw_below_drewN | apply below_drew1 | refine below_set ?_ GE142.out | refine below_set ?_ GE143.out) | exact HB.out)) hb); clear BK142; clear BK143; clear HB; have BK142 := n0_; have BK143 := n1_; have HB := n2_; clear n0_ n1_ n2_; (try clear hb); (try clear hb2); (try clear hk); (try clear hi); have hcz94_0 : w93.cell? ⟨gb143, 0, none⟩ = some (.int .i64 0) := (blk_cell BK143.out 0).trans rfl; have hcz94_1 : w93.cell? ⟨gb143, 1, none⟩ = some (.int .i64 0) := (blk_cell BK143.out 1).trans rfl; have hcz94_2 : w93.cell? ⟨gb143, 2, none⟩ = some (.int .i64 0) := (blk_cell BK143.out 2).trans rfl; have hcz94_3 : w93.cell? ⟨gb143, 3, none⟩ = some (.int .i64 0) := (blk_cell BK143.out 3).trans rfl; have hcz94_4 : w93.cell? ⟨gb143, 4, none⟩ = some (.int .i64 0) := (blk_cell BK143.out 4).trans rfl; have hfz94_0 := blk_frozen BK143.out 0; have hfz94_1 := blk_frozen BK143.out 1; have hfz94_2 := blk_frozen BK143.out 2; have hfz94_3 := blk_frozen BK143.out 3; have hfz94_4 := blk_frozen BK143.out 4))
                                        refine bodyPost_ret (results_ct rfl _ _ gb143 28 #[.int .i64 t208, .int .i64 t209, .int .i64 t210, .int .i64 t211, .int .i64 t212] (0, 0) _ rfl (by (with_reducible repeat (first | refine blk_drewN ?_ _ | refine blk_drew ?_ | refine blk_alloc ?_ _)); refine blk_put (cs := #[.int .i64 t208, .int .i64 t209, .int .i64 t210, .int .i64 t211, .int .i64 0]) ?_ 4 _ rfl; (with_reducible repeat (first | refine blk_drewN ?_ _ | refine blk_drew ?_ | refine blk_alloc ?_ _)); refine blk_put (cs := #[.int .i64 t208, .int .i64 t209, .int .i64 t210, .int .i64 0, .int .i64 0]) ?_ 3 _ rfl; (with_reducible repeat (first | refine blk_drewN ?_ _ | refine blk_drew ?_ | refine blk_alloc ?_ _)); refine blk_put (cs := #[.int .i64 t208, .int .i64 t209, .int .i64 0, .int .i64 0, .int .i64 0]) ?_ 2 _ rfl; (with_reducible repeat (first | refine blk_drewN ?_ _ | refine blk_drew ?_ | refine blk_alloc ?_ _)); refine blk_put (cs := #[.int .i64 t208, .int .i64 0, .int .i64 0, .int .i64 0, .int .i64 0]) ?_ 1 _ rfl; (with_reducible repeat (first | refine blk_drewN ?_ _ | refine blk_drew ?_ | refine blk_alloc ?_ _)); refine blk_put (cs := #[.int .i64 0, .int .i64 0, .int .i64 0, .int .i64 0, .int .i64 0]) ?_ 0 _ rfl; (with_reducible repeat (first | refine blk_drewN ?_ _ | refine blk_drew ?_ | refine blk_alloc ?_ _)); exact BK143.out) Try.underlying28 rfl (by kernel_rfl)) rfl ?_
                                        exact ⟨by first | rfl | (simp [errW_none, errW_some] <;> rfl) | (simp [*, errW_none, errW_some] <;> rfl), by repeat (first | (with_reducible first | exact HB.out | apply below_alloc | apply pw_below_drewN | apply below_drew1 | refine below_set ?_ GE142.out | refine below_set ?_ GE143.out) | exact HB.out)⟩
                                      · replace c89 := Bool.eq_false_iff.mpr c89
                                        subst c89
                                        have H1 : (if a0_13 = true then ((estoversref26_plan.f 5 0 1).bind fun bt214 => (some (bt214.1, bt214.2.1, bt214.2.2.1, bt214.2.2.2.1, bt214.2.2.2.2.1, bt214.2.2.2.2.2))) else ((estoversref26_plan.f 4 a0_16 1).bind fun bt220 => (some (bt220.1, bt220.2.1, bt220.2.2.1, bt220.2.2.2.1, bt220.2.2.2.2.1, bt220.2.2.2.2.2)))) = some (r1, r2, r3, r4, r5, r6) := by rw [if_neg (show ¬ (false = true) by decide)] at H; exact H
                                        clear H
                                        have H := H1
                                        clear H1
                                        by_cases c95 : a0_13 = true
                                        · subst c95
                                          have H1 : ((estoversref26_plan.f 5 0 1).bind fun bt214 => (some (bt214.1, bt214.2.1, bt214.2.2.1, bt214.2.2.2.1, bt214.2.2.2.2.1, bt214.2.2.2.2.2))) = some (r1, r2, r3, r4, r5, r6) := by rw [if_pos rfl] at H; exact H
                                          clear H
                                          have H := H1
                                          clear H1
                                          replace H := Option.bind_eq_some_iff.mp H
                                          obtain ⟨⟨t214, t215, t216, t217, t218, t219⟩, A960, H⟩ := H
                                          replace H : (some (t214, t215, t216, t217, t218, t219)) = some (r1, r2, r3, r4, r5, r6) := H
                                          have A96 := Aside0.mk A960
                                          clear A960
                                          simp only [Option.some.injEq, Prod.mk.injEq] at H
                                          obtain ⟨rfl, rfl, rfl, rfl, rfl, rfl⟩ := H
                                          have hnb97 := NB142_143.out
                                          have hnc97 := NB143_142.out
                                          have hcz98_0 : wc.cell? ⟨gb142, 0, none⟩ = some (.bool a0_0) := (blk_cell BK142.out 0).trans rfl
                                          have hcz98_1 : wc.cell? ⟨gb142, 1, none⟩ = some (.bool true) := (blk_cell BK142.out 1).trans rfl
                                          have hcz98_2 : wc.cell? ⟨gb142, 2, none⟩ = some (.int .i64 a0_2) := (blk_cell BK142.out 2).trans rfl
                                          have hcz98_3 : wc.cell? ⟨gb142, 3, none⟩ = some (.bool a0_3) := (blk_cell BK142.out 3).trans rfl
                                          have hcz98_4 : wc.cell? ⟨gb142, 4, none⟩ = some (.bool true) := (blk_cell BK142.out 4).trans rfl
                                          have hcz98_5 : wc.cell? ⟨gb142, 5, none⟩ = some (.bool a0_5) := (blk_cell BK142.out 5).trans rfl
                                          have hcz98_6 : wc.cell? ⟨gb142, 6, none⟩ = some (.bool a0_6) := (blk_cell BK142.out 6).trans rfl
                                          have hcz98_7 : wc.cell? ⟨gb142, 7, none⟩ = some (.int .i64 a0_7) := (blk_cell BK142.out 7).trans rfl
                                          have hcz98_8 : wc.cell? ⟨gb142, 8, none⟩ = some (.bool a0_8) := (blk_cell BK142.out 8).trans rfl
                                          have hcz98_9 : wc.cell? ⟨gb142, 9, none⟩ = some (.bool false) := (blk_cell BK142.out 9).trans rfl
                                          have hcz98_10 : wc.cell? ⟨gb142, 10, none⟩ = some (.bool a0_10) := (blk_cell BK142.out 10).trans rfl
                                          have hcz98_11 : wc.cell? ⟨gb142, 11, none⟩ = some (.bool a0_11) := (blk_cell BK142.out 11).trans rfl
                                          have hcz98_12 : wc.cell? ⟨gb142, 12, none⟩ = some (.bool false) := (blk_cell BK142.out 12).trans rfl
                                          have hcz98_13 : wc.cell? ⟨gb142, 13, none⟩ = some (.bool true) := (blk_cell BK142.out 13).trans rfl
                                          have hcz98_14 : wc.cell? ⟨gb142, 14, none⟩ = some (.bool a0_14) := (blk_cell BK142.out 14).trans rfl
                                          have hcz98_15 : wc.cell? ⟨gb142, 15, none⟩ = some (.bool a0_15) := (blk_cell BK142.out 15).trans rfl
                                          have hcz98_16 : wc.cell? ⟨gb142, 16, none⟩ = some (.int .i64 a0_16) := (blk_cell BK142.out 16).trans rfl
                                          have hfz98_0 := blk_frozen BK142.out 0
                                          have hfz98_1 := blk_frozen BK142.out 1
                                          have hfz98_2 := blk_frozen BK142.out 2
                                          have hfz98_3 := blk_frozen BK142.out 3
                                          have hfz98_4 := blk_frozen BK142.out 4
                                          have hfz98_5 := blk_frozen BK142.out 5
                                          have hfz98_6 := blk_frozen BK142.out 6
                                          have hfz98_7 := blk_frozen BK142.out 7
                                          have hfz98_8 := blk_frozen BK142.out 8
                                          have hfz98_9 := blk_frozen BK142.out 9
                                          have hfz98_10 := blk_frozen BK142.out 10
                                          have hfz98_11 := blk_frozen BK142.out 11
                                          have hfz98_12 := blk_frozen BK142.out 12
                                          have hfz98_13 := blk_frozen BK142.out 13
                                          have hfz98_14 := blk_frozen BK142.out 14
                                          have hfz98_15 := blk_frozen BK142.out 15
                                          have hfz98_16 := blk_frozen BK142.out 16
                                          go_wp2_with (first | ((with_reducible refine gate_callee (f := 23) rfl ?_); refine goesL_ (some 108) rfl rfl Try.func23 (by kernel_rfl) rfl #[.int .i64 5, .int .i64 0, .int .i64 1] rfl (by (try simp only [List.map_toArray, List.map_cons, List.map_nil]); first | done | rfl | (simp only [List.length_drop, List.length_take]; rfl)) ?_; (with_reducible refine (estoversref26_plan.calls 5 0 1 t214 t215 t216 t217 t218 t219 _ A96.out).mono ?_); rintro e w99 ⟨rfl, hb⟩; refine ⟨_, rfl, ?_⟩; have n0_ := Aside0.mk (blk_below (g := gb142) (o := .cells #[.bool a0_0, .bool true, .int .i64 a0_2, .bool a0_3, .bool true, .bool a0_5, .bool a0_6, .int .i64 a0_7, .bool a0_8, .bool false, .bool a0_10, .bool a0_11, .bool false, .bool true, .bool a0_14, .bool a0_15, .int .i64 a0_16] 23 (0, 0)) (by (with_reducible repeat (first | refine blk_drewN ?_ _ | refine blk_drew ?_ | refine blk_alloc ?_ _)); exact BK142.out) hb); have n1_ := Aside0.mk (blk_below (g := gb143) (o := .cells #[.int .i64 0, .int .i64 0, .int .i64 0, .int .i64 0, .int .i64 0] 28 (0, 0)) (by (with_reducible repeat (first | refine blk_drewN ?_ _ | refine blk_drew ?_ | refine blk_alloc ?_ _)); exact BK143.out) hb); have n2_ := Aside0.mk (below_step (by repeat (first | (with_reducible first | exact HB.out | apply below_alloc | apply pw_below_drewN | apply below_drew1 | refine below_set ?_ GE142.out | refine below_set ?_ GE143.out) | exact HB.out)) hb); clear BK142; clear BK143; clear HB; have BK142 := n0_; have BK143 := n1_; have HB := n2_; clear n0_ n1_ n2_; (try clear hb); (try clear hb2); (try clear hk); (try clear hi); have hcz100_0 : w99.cell? ⟨gb143, 0, none⟩ = some (.int .i64 0) := (blk_cell BK143.out 0).trans rfl; have hcz100_1 : w99.cell? ⟨gb143, 1, none⟩ = some (.int .i64 0) := (blk_cell BK143.out 1).trans rfl; have hcz100_2 : w99.cell? ⟨gb143, 2, none⟩ = some (.int .i64 0) := (blk_cell BK143.out 2).trans rfl; have hcz100_3 : w99.cell? ⟨gb143, 3, none⟩ = some (.int .i64 0) := (blk_cell BK143.out 3).trans rfl; have hcz100_4 : w99.cell? ⟨gb143, 4, none⟩ = some (.int .i64 0) := (blk_cell BK143.out 4).trans rfl; have hfz100_0 := blk_frozen BK143.out 0; have hfz100_1 := blk_frozen BK143.out 1; have hfz100_2 := blk_frozen BK143.out 2; have hfz100_3 := blk_frozen BK143.out 3; have hfz100_4 := blk_frozen BK143.out 4))
                                          refine bodyPost_ret (results_ct rfl _ _ gb143 28 #[.int .i64 t214, .int .i64 t215, .int .i64 t216, .int .i64 t217, .int .i64 t218] (0, 0) _ rfl (by (with_reducible repeat (first | refine blk_drewN ?_ _ | refine blk_drew ?_ | refine blk_alloc ?_ _)); refine blk_put (cs := #[.int .i64 t214, .int .i64 t215, .int .i64 t216, .int .i64 t217, .int .i64 0]) ?_ 4 _ rfl; (with_reducible repeat (first | refine blk_drewN ?_ _ | refine blk_drew ?_ | refine blk_alloc ?_ _)); refine blk_put (cs := #[.int .i64 t214, .int .i64 t215, .int .i64 t216, .int .i64 0, .int .i64 0]) ?_ 3 _ rfl; (with_reducible repeat (first | refine blk_drewN ?_ _ | refine blk_drew ?_ | refine blk_alloc ?_ _)); refine blk_put (cs := #[.int .i64 t214, .int .i64 t215, .int .i64 0, .int .i64 0, .int .i64 0]) ?_ 2 _ rfl; (with_reducible repeat (first | refine blk_drewN ?_ _ | refine blk_drew ?_ | refine blk_alloc ?_ _)); refine blk_put (cs := #[.int .i64 t214, .int .i64 0, .int .i64 0, .int .i64 0, .int .i64 0]) ?_ 1 _ rfl; (with_reducible repeat (first | refine blk_drewN ?_ _ | refine blk_drew ?_ | refine blk_alloc ?_ _)); refine blk_put (cs := #[.int .i64 0, .int .i64 0, .int .i64 0, .int .i64 0, .int .i64 0]) ?_ 0 _ rfl; (with_reducible repeat (first | refine blk_drewN ?_ _ | refine blk_drew ?_ | refine blk_alloc ?_ _)); exact BK143.out) Try.underlying28 rfl (by kernel_rfl)) rfl ?_
                                          exact ⟨by first | rfl | (simp [errW_none, errW_some] <;> rfl) | (simp [*, errW_none, errW_some] <;> rfl), by repeat (first | (with_reducible first | exact HB.out | apply below_alloc | apply pw_below_drewN | apply below_drew1 | refine below_set ?_ GE142.out | refine below_set ?_ GE143.out) | exact HB.out)⟩
                                        · replace c95 := Bool.eq_false_iff.mpr c95
                                          subst c95
                                          have H1 : ((estoversref26_plan.f 4 a0_16 1).bind fun bt220 => (some (bt220.1, bt220.2.1, bt220.2.2.1, bt220.2.2.2.1, bt220.2.2.2.2.1, bt220.2.2.2.2.2))) = some (r1, r2, r3, r4, r5, r6) := by rw [if_neg (show ¬ (false = true) by decide)] at H; exact H
                                          clear H
                                          have H := H1
                                          clear H1
                                          replace H := Option.bind_eq_some_iff.mp H
                                          obtain ⟨⟨t220, t221, t222, t223, t224, t225⟩, A1010, H⟩ := H
                                          replace H : (some (t220, t221, t222, t223, t224, t225)) = some (r1, r2, r3, r4, r5, r6) := H
                                          have A101 := Aside0.mk A1010
                                          clear A1010
                                          simp only [Option.some.injEq, Prod.mk.injEq] at H
                                          obtain ⟨rfl, rfl, rfl, rfl, rfl, rfl⟩ := H
                                          have hnb102 := NB142_143.out
                                          have hnc102 := NB143_142.out
                                          have hcz103_0 : wc.cell? ⟨gb142, 0, none⟩ = some (.bool a0_0) := (blk_cell BK142.out 0).trans rfl
                                          have hcz103_1 : wc.cell? ⟨gb142, 1, none⟩ = some (.bool true) := (blk_cell BK142.out 1).trans rfl
                                          have hcz103_2 : wc.cell? ⟨gb142, 2, none⟩ = some (.int .i64 a0_2) := (blk_cell BK142.out 2).trans rfl
                                          have hcz103_3 : wc.cell? ⟨gb142, 3, none⟩ = some (.bool a0_3) := (blk_cell BK142.out 3).trans rfl
                                          have hcz103_4 : wc.cell? ⟨gb142, 4, none⟩ = some (.bool true) := (blk_cell BK142.out 4).trans rfl
                                          have hcz103_5 : wc.cell? ⟨gb142, 5, none⟩ = some (.bool a0_5) := (blk_cell BK142.out 5).trans rfl
                                          have hcz103_6 : wc.cell? ⟨gb142, 6, none⟩ = some (.bool a0_6) := (blk_cell BK142.out 6).trans rfl
                                          have hcz103_7 : wc.cell? ⟨gb142, 7, none⟩ = some (.int .i64 a0_7) := (blk_cell BK142.out 7).trans rfl
                                          have hcz103_8 : wc.cell? ⟨gb142, 8, none⟩ = some (.bool a0_8) := (blk_cell BK142.out 8).trans rfl
                                          have hcz103_9 : wc.cell? ⟨gb142, 9, none⟩ = some (.bool false) := (blk_cell BK142.out 9).trans rfl
                                          have hcz103_10 : wc.cell? ⟨gb142, 10, none⟩ = some (.bool a0_10) := (blk_cell BK142.out 10).trans rfl
                                          have hcz103_11 : wc.cell? ⟨gb142, 11, none⟩ = some (.bool a0_11) := (blk_cell BK142.out 11).trans rfl
                                          have hcz103_12 : wc.cell? ⟨gb142, 12, none⟩ = some (.bool false) := (blk_cell BK142.out 12).trans rfl
                                          have hcz103_13 : wc.cell? ⟨gb142, 13, none⟩ = some (.bool false) := (blk_cell BK142.out 13).trans rfl
                                          have hcz103_14 : wc.cell? ⟨gb142, 14, none⟩ = some (.bool a0_14) := (blk_cell BK142.out 14).trans rfl
                                          have hcz103_15 : wc.cell? ⟨gb142, 15, none⟩ = some (.bool a0_15) := (blk_cell BK142.out 15).trans rfl
                                          have hcz103_16 : wc.cell? ⟨gb142, 16, none⟩ = some (.int .i64 a0_16) := (blk_cell BK142.out 16).trans rfl
                                          have hfz103_0 := blk_frozen BK142.out 0
                                          have hfz103_1 := blk_frozen BK142.out 1
                                          have hfz103_2 := blk_frozen BK142.out 2
                                          have hfz103_3 := blk_frozen BK142.out 3
                                          have hfz103_4 := blk_frozen BK142.out 4
                                          have hfz103_5 := blk_frozen BK142.out 5
                                          have hfz103_6 := blk_frozen BK142.out 6
                                          have hfz103_7 := blk_frozen BK142.out 7
                                          have hfz103_8 := blk_frozen BK142.out 8
                                          have hfz103_9 := blk_frozen BK142.out 9
                                          have hfz103_10 := blk_frozen BK142.out 10
                                          have hfz103_11 := blk_frozen BK142.out 11
                                          have hfz103_12 := blk_frozen BK142.out 12
                                          have hfz103_13 := blk_frozen BK142.out 13
                                          have hfz103_14 := blk_frozen BK142.out 14
                                          have hfz103_15 := blk_frozen BK142.out 15
                                          have hfz103_16 := blk_frozen BK142.out 16
                                          go_wp2_with (first | ((with_reducible refine gate_callee (f := 23) rfl ?_); refine goesL_ (some 105) rfl rfl Try.func23 (by kernel_rfl) rfl #[.int .i64 4, .int .i64 a0_16, .int .i64 1] rfl (by (try simp only [List.map_toArray, List.map_cons, List.map_nil]); first | done | rfl | (simp only [List.length_drop, List.length_take]; rfl)) ?_; (with_reducible refine (estoversref26_plan.calls 4 a0_16 1 t220 t221 t222 t223 t224 t225 _ A101.out).mono ?_); rintro e w104 ⟨rfl, hb⟩; refine ⟨_, rfl, ?_⟩; have n0_ := Aside0.mk (blk_below (g := gb142) (o := .cells #[.bool a0_0, .bool true, .int .i64 a0_2, .bool a0_3, .bool true, .bool a0_5, .bool a0_6, .int .i64 a0_7, .bool a0_8, .bool false, .bool a0_10, .bool a0_11, .bool false, .bool false, .bool a0_14, .bool a0_15, .int .i64 a0_16] 23 (0, 0)) (by (with_reducible repeat (first | refine blk_drewN ?_ _ | refine blk_drew ?_ | refine blk_alloc ?_ _)); exact BK142.out) hb); have n1_ := Aside0.mk (blk_below (g := gb143) (o := .cells #[.int .i64 0, .int .i64 0, .int .i64 0, .int .i64 0, .int .i64 0] 28 (0, 0)) (by (with_reducible repeat (first | refine blk_drewN ?_ _ | refine blk_drew ?_ | refine blk_alloc ?_ _)); exact BK143.out) hb); have n2_ := Aside0.mk (below_step (by repeat (first | (with_reducible first | exact HB.out | apply below_alloc | apply pw_below_drewN | apply below_drew1 | refine below_set ?_ GE142.out | refine below_set ?_ GE143.out) | exact HB.out)) hb); clear BK142; clear BK143; clear HB; have BK142 := n0_; have BK143 := n1_; have HB := n2_; clear n0_ n1_ n2_; (try clear hb); (try clear hb2); (try clear hk); (try clear hi); have hcz105_0 : w104.cell? ⟨gb143, 0, none⟩ = some (.int .i64 0) := (blk_cell BK143.out 0).trans rfl; have hcz105_1 : w104.cell? ⟨gb143, 1, none⟩ = some (.int .i64 0) := (blk_cell BK143.out 1).trans rfl; have hcz105_2 : w104.cell? ⟨gb143, 2, none⟩ = some (.int .i64 0) := (blk_cell BK143.out 2).trans rfl; have hcz105_3 : w104.cell? ⟨gb143, 3, none⟩ = some (.int .i64 0) := (blk_cell BK143.out 3).trans rfl; have hcz105_4 : w104.cell? ⟨gb143, 4, none⟩ = some (.int .i64 0) := (blk_cell BK143.out 4).trans rfl; have hfz105_0 := blk_frozen BK143.out 0; have hfz105_1 := blk_frozen BK143.out 1; have hfz105_2 := blk_frozen BK143.out 2; have hfz105_3 := blk_frozen BK143.out 3; have hfz105_4 := blk_frozen BK143.out 4))
                                          refine bodyPost_ret (results_ct rfl _ _ gb143 28 #[.int .i64 t220, .int .i64 t221, .int .i64 t222, .int .i64 t223, .int .i64 t224] (0, 0) _ rfl (by (with_reducible repeat (first | refine blk_drewN ?_ _ | refine blk_drew ?_ | refine blk_alloc ?_ _)); refine blk_put (cs := #[.int .i64 t220, .int .i64 t221, .int .i64 t222, .int .i64 t223, .int .i64 0]) ?_ 4 _ rfl; (with_reducible repeat (first | refine blk_drewN ?_ _ | refine blk_drew ?_ | refine blk_alloc ?_ _)); refine blk_put (cs := #[.int .i64 t220, .int .i64 t221, .int .i64 t222, .int .i64 0, .int .i64 0]) ?_ 3 _ rfl; (with_reducible repeat (first | refine blk_drewN ?_ _ | refine blk_drew ?_ | refine blk_alloc ?_ _)); refine blk_put (cs := #[.int .i64 t220, .int .i64 t221, .int .i64 0, .int .i64 0, .int .i64 0]) ?_ 2 _ rfl; (with_reducible repeat (first | refine blk_drewN ?_ _ | refine blk_drew ?_ | refine blk_alloc ?_ _)); refine blk_put (cs := #[.int .i64 t220, .int .i64 0, .int .i64 0, .int .i64 0, .int .i64 0]) ?_ 1 _ rfl; (with_reducible repeat (first | refine blk_drewN ?_ _ | refine blk_drew ?_ | refine blk_alloc ?_ _)); refine blk_put (cs := #[.int .i64 0, .int .i64 0, .int .i64 0, .int .i64 0, .int .i64 0]) ?_ 0 _ rfl; (with_reducible repeat (first | refine blk_drewN ?_ _ | refine blk_drew ?_ | refine blk_alloc ?_ _)); exact BK143.out) Try.underlying28 rfl (by kernel_rfl)) rfl ?_
                                          exact ⟨by first | rfl | (simp [errW_none, errW_some] <;> rfl) | (simp [*, errW_none, errW_some] <;> rfl), by repeat (first | (with_reducible first | exact HB.out | apply below_alloc | apply pw_below_drewN | apply below_drew1 | refine below_set ?_ GE142.out | refine below_set ?_ GE143.out) | exact HB.out)⟩
                                    · replace c88 := Bool.eq_false_iff.mpr c88
                                      subst c88
                                      have H1 : ((estoversref26_plan.f 3 a0_16 1).bind fun bt202 => (some (bt202.1, bt202.2.1, bt202.2.2.1, bt202.2.2.2.1, bt202.2.2.2.2.1, bt202.2.2.2.2.2))) = some (r1, r2, r3, r4, r5, r6) := by rw [if_neg (show ¬ (false = true) by decide)] at H; exact H
                                      clear H
                                      have H := H1
                                      clear H1
                                      replace H := Option.bind_eq_some_iff.mp H
                                      obtain ⟨⟨t202, t203, t204, t205, t206, t207⟩, A1060, H⟩ := H
                                      replace H : (some (t202, t203, t204, t205, t206, t207)) = some (r1, r2, r3, r4, r5, r6) := H
                                      have A106 := Aside0.mk A1060
                                      clear A1060
                                      simp only [Option.some.injEq, Prod.mk.injEq] at H
                                      obtain ⟨rfl, rfl, rfl, rfl, rfl, rfl⟩ := H
                                      have hnb107 := NB142_143.out
                                      have hnc107 := NB143_142.out
                                      have hcz108_0 : wc.cell? ⟨gb142, 0, none⟩ = some (.bool a0_0) := (blk_cell BK142.out 0).trans rfl
                                      have hcz108_1 : wc.cell? ⟨gb142, 1, none⟩ = some (.bool true) := (blk_cell BK142.out 1).trans rfl
                                      have hcz108_2 : wc.cell? ⟨gb142, 2, none⟩ = some (.int .i64 a0_2) := (blk_cell BK142.out 2).trans rfl
                                      have hcz108_3 : wc.cell? ⟨gb142, 3, none⟩ = some (.bool a0_3) := (blk_cell BK142.out 3).trans rfl
                                      have hcz108_4 : wc.cell? ⟨gb142, 4, none⟩ = some (.bool false) := (blk_cell BK142.out 4).trans rfl
                                      have hcz108_5 : wc.cell? ⟨gb142, 5, none⟩ = some (.bool a0_5) := (blk_cell BK142.out 5).trans rfl
                                      have hcz108_6 : wc.cell? ⟨gb142, 6, none⟩ = some (.bool a0_6) := (blk_cell BK142.out 6).trans rfl
                                      have hcz108_7 : wc.cell? ⟨gb142, 7, none⟩ = some (.int .i64 a0_7) := (blk_cell BK142.out 7).trans rfl
                                      have hcz108_8 : wc.cell? ⟨gb142, 8, none⟩ = some (.bool a0_8) := (blk_cell BK142.out 8).trans rfl
                                      have hcz108_9 : wc.cell? ⟨gb142, 9, none⟩ = some (.bool false) := (blk_cell BK142.out 9).trans rfl
                                      have hcz108_10 : wc.cell? ⟨gb142, 10, none⟩ = some (.bool a0_10) := (blk_cell BK142.out 10).trans rfl
                                      have hcz108_11 : wc.cell? ⟨gb142, 11, none⟩ = some (.bool a0_11) := (blk_cell BK142.out 11).trans rfl
                                      have hcz108_12 : wc.cell? ⟨gb142, 12, none⟩ = some (.bool a0_12) := (blk_cell BK142.out 12).trans rfl
                                      have hcz108_13 : wc.cell? ⟨gb142, 13, none⟩ = some (.bool a0_13) := (blk_cell BK142.out 13).trans rfl
                                      have hcz108_14 : wc.cell? ⟨gb142, 14, none⟩ = some (.bool a0_14) := (blk_cell BK142.out 14).trans rfl
                                      have hcz108_15 : wc.cell? ⟨gb142, 15, none⟩ = some (.bool a0_15) := (blk_cell BK142.out 15).trans rfl
                                      have hcz108_16 : wc.cell? ⟨gb142, 16, none⟩ = some (.int .i64 a0_16) := (blk_cell BK142.out 16).trans rfl
                                      have hfz108_0 := blk_frozen BK142.out 0
                                      have hfz108_1 := blk_frozen BK142.out 1
                                      have hfz108_2 := blk_frozen BK142.out 2
                                      have hfz108_3 := blk_frozen BK142.out 3
                                      have hfz108_4 := blk_frozen BK142.out 4
                                      have hfz108_5 := blk_frozen BK142.out 5
                                      have hfz108_6 := blk_frozen BK142.out 6
                                      have hfz108_7 := blk_frozen BK142.out 7
                                      have hfz108_8 := blk_frozen BK142.out 8
                                      have hfz108_9 := blk_frozen BK142.out 9
                                      have hfz108_10 := blk_frozen BK142.out 10
                                      have hfz108_11 := blk_frozen BK142.out 11
                                      have hfz108_12 := blk_frozen BK142.out 12
                                      have hfz108_13 := blk_frozen BK142.out 13
                                      have hfz108_14 := blk_frozen BK142.out 14
                                      have hfz108_15 := blk_frozen BK142.out 15
                                      have hfz108_16 := blk_frozen BK142.out 16
                                      go_wp2_with (first | ((with_reducible refine gate_callee (f := 23) rfl ?_); refine goesL_ (some 90) rfl rfl Try.func23 (by kernel_rfl) rfl #[.int .i64 3, .int .i64 a0_16, .int .i64 1] rfl (by (try simp only [List.map_toArray, List.map_cons, List.map_nil]); first | done | rfl | (simp only [List.length_drop, List.length_take]; rfl)) ?_; (with_reducible refine (estoversref26_plan.calls 3 a0_16 1 t202 t203 t204 t205 t206 t207 _ A106.out).mono ?_); rintro e w109 ⟨rfl, hb⟩; refine ⟨_, rfl, ?_⟩; have n0_ := Aside0.mk (blk_below (g := gb142) (o := .cells #[.bool a0_0, .bool true, .int .i64 a0_2, .bool a0_3, .bool false, .bool a0_5, .bool a0_6, .int .i64 a0_7, .bool a0_8, .bool false, .bool a0_10, .bool a0_11, .bool a0_12, .bool a0_13, .bool a0_14, .bool a0_15, .int .i64 a0_16] 23 (0, 0)) (by (with_reducible repeat (first | refine blk_drewN ?_ _ | refine blk_drew ?_ | refine blk_alloc ?_ _)); exact BK142.out) hb); have n1_ := Aside0.mk (blk_below (g := gb143) (o := .cells #[.int .i64 0, .int .i64 0, .int .i64 0, .int .i64 0, .int .i64 0] 28 (0, 0)) (by (with_reducible repeat (first | refine blk_drewN ?_ _ | refine blk_drew ?_ | refine blk_alloc ?_ _)); exact BK143.out) hb); have n2_ := Aside0.mk (below_step (by repeat (first | (with_reducible first | exact HB.out | apply below_alloc | apply pw_below_drewN | apply below_drew1 | refine below_set ?_ GE142.out | refine below_set ?_ GE143.out) | exact HB.out)) hb); clear BK142; clear BK143; clear HB; have BK142 := n0_; have BK143 := n1_; have HB := n2_; clear n0_ n1_ n2_; (try clear hb); (try clear hb2); (try clear hk); (try clear hi); have hcz110_0 : w109.cell? ⟨gb143, 0, none⟩ = some (.int .i64 0) := (blk_cell BK143.out 0).trans rfl; have hcz110_1 : w109.cell? ⟨gb143, 1, none⟩ = some (.int .i64 0) := (blk_cell BK143.out 1).trans rfl; have hcz110_2 : w109.cell? ⟨gb143, 2, none⟩ = some (.int .i64 0) := (blk_cell BK143.out 2).trans rfl; have hcz110_3 : w109.cell? ⟨gb143, 3, none⟩ = some (.int .i64 0) := (blk_cell BK143.out 3).trans rfl; have hcz110_4 : w109.cell? ⟨gb143, 4, none⟩ = some (.int .i64 0) := (blk_cell BK143.out 4).trans rfl; have hfz110_0 := blk_frozen BK143.out 0; have hfz110_1 := blk_frozen BK143.out 1; have hfz110_2 := blk_frozen BK143.out 2; have hfz110_3 := blk_frozen BK143.out 3; have hfz110_4 := blk_frozen BK143.out 4))
                                      refine bodyPost_ret (results_ct rfl _ _ gb143 28 #[.int .i64 t202, .int .i64 t203, .int .i64 t204, .int .i64 t205, .int .i64 t206] (0, 0) _ rfl (by (with_reducible repeat (first | refine blk_drewN ?_ _ | refine blk_drew ?_ | refine blk_alloc ?_ _)); refine blk_put (cs := #[.int .i64 t202, .int .i64 t203, .int .i64 t204, .int .i64 t205, .int .i64 0]) ?_ 4 _ rfl; (with_reducible repeat (first | refine blk_drewN ?_ _ | refine blk_drew ?_ | refine blk_alloc ?_ _)); refine blk_put (cs := #[.int .i64 t202, .int .i64 t203, .int .i64 t204, .int .i64 0, .int .i64 0]) ?_ 3 _ rfl; (with_reducible repeat (first | refine blk_drewN ?_ _ | refine blk_drew ?_ | refine blk_alloc ?_ _)); refine blk_put (cs := #[.int .i64 t202, .int .i64 t203, .int .i64 0, .int .i64 0, .int .i64 0]) ?_ 2 _ rfl; (with_reducible repeat (first | refine blk_drewN ?_ _ | refine blk_drew ?_ | refine blk_alloc ?_ _)); refine blk_put (cs := #[.int .i64 t202, .int .i64 0, .int .i64 0, .int .i64 0, .int .i64 0]) ?_ 1 _ rfl; (with_reducible repeat (first | refine blk_drewN ?_ _ | refine blk_drew ?_ | refine blk_alloc ?_ _)); refine blk_put (cs := #[.int .i64 0, .int .i64 0, .int .i64 0, .int .i64 0, .int .i64 0]) ?_ 0 _ rfl; (with_reducible repeat (first | refine blk_drewN ?_ _ | refine blk_drew ?_ | refine blk_alloc ?_ _)); exact BK143.out) Try.underlying28 rfl (by kernel_rfl)) rfl ?_
                                      exact ⟨by first | rfl | (simp [errW_none, errW_some] <;> rfl) | (simp [*, errW_none, errW_some] <;> rfl), by repeat (first | (with_reducible first | exact HB.out | apply below_alloc | apply pw_below_drewN | apply below_drew1 | refine below_set ?_ GE142.out | refine below_set ?_ GE143.out) | exact HB.out)⟩
    · replace c4 := Bool.eq_false_iff.mpr c4
      subst c4
      have H1 : ((estoversref26_refuse.f 13).bind fun bt145 => (some (bt145.1, bt145.2.1, bt145.2.2.1, bt145.2.2.2.1, bt145.2.2.2.2.1, bt145.2.2.2.2.2))) = some (r1, r2, r3, r4, r5, r6) := by rw [if_neg (show ¬ (false = true) by decide)] at H; exact H
      clear H
      have H := H1
      clear H1
      replace H := Option.bind_eq_some_iff.mp H
      obtain ⟨⟨t145, t146, t147, t148, t149, t150⟩, A1110, H⟩ := H
      replace H : (some (t145, t146, t147, t148, t149, t150)) = some (r1, r2, r3, r4, r5, r6) := H
      have A111 := Aside0.mk A1110
      clear A1110
      simp only [Option.some.injEq, Prod.mk.injEq] at H
      obtain ⟨rfl, rfl, rfl, rfl, rfl, rfl⟩ := H
      go_enter Try.func14, Try.ntmps14
      go_wp2_with (first | ((with_reducible refine gate_dst (N := 1) rfl ?_); refine box_event ?hg (N := 1) ?hd (cs := #[.bool a0_0, .bool false, .int .i64 a0_2, .bool a0_3, .bool a0_4, .bool a0_5, .bool a0_6, .int .i64 a0_7, .bool a0_8, .bool a0_9, .bool a0_10, .bool a0_11, .bool a0_12, .bool a0_13, .bool a0_14, .bool a0_15, .int .i64 a0_16]) (t := 23) ?hr ?_; (case hd => rfl); (case hg => rfl); (case hr => first | (go_simp; done) | (go_simp; rfl)); intro gb142 hg w112 hbox hb; have n0_ := Aside0.mk (below_step (by repeat (first | (with_reducible first | exact HB.out | apply below_alloc | apply pw_below_drewN | apply below_drew1) | exact HB.out)) hb); have n1_ := Aside0.mk (hbox); have n2_ := Aside0.mk ((by rw [hg]; exact (below_size (by repeat (first | (with_reducible first | exact HB.out | apply below_alloc | apply pw_below_drewN | apply below_drew1) | exact HB.out))) : w.heap.size ≤ gb142)); have n3_ := Aside0.mk ((by rw [hg]; exact (below_size (by repeat (first | (with_reducible first | exact HB.out | apply below_alloc | apply pw_below_drewN | apply below_drew1) | exact HB.out))) : w.heap.size ≤ gb142)); clear HB; have HB := n0_; have BK142 := n1_; have GW142 := n2_; have GE142 := n3_; clear n0_ n1_ n2_ n3_; clear hb hbox hg) | ((with_reducible refine gate_dst (N := 2) rfl ?_); refine box_event ?hg (N := 2) ?hd (cs := #[.int .i64 0, .int .i64 0, .int .i64 0, .int .i64 0, .int .i64 0]) (t := 28) ?hr ?_; (case hd => rfl); (case hg => rfl); (case hr => first | (go_simp; done) | (go_simp; rfl)); intro gb143 hg w113 hbox hb; have n0_ := Aside0.mk (blk_below (g := gb142) (o := .cells #[.bool a0_0, .bool false, .int .i64 a0_2, .bool a0_3, .bool a0_4, .bool a0_5, .bool a0_6, .int .i64 a0_7, .bool a0_8, .bool a0_9, .bool a0_10, .bool a0_11, .bool a0_12, .bool a0_13, .bool a0_14, .bool a0_15, .int .i64 a0_16] 23 (0, 0)) (by (with_reducible repeat (first | refine blk_drewN ?_ _ | refine blk_drew ?_ | refine blk_alloc ?_ _)); exact BK142.out) hb); have n1_ := Aside0.mk (below_step (by repeat (first | (with_reducible first | exact HB.out | apply below_alloc | apply pw_below_drewN | apply below_drew1 | refine below_set ?_ GE142.out) | exact HB.out)) hb); have n2_ := Aside0.mk (hbox); have n3_ := Aside0.mk ((by rw [hg]; exact (below_size (by repeat (first | (with_reducible first | exact HB.out | apply below_alloc | apply pw_below_drewN | apply below_drew1 | refine below_set ?_ GE142.out) | exact HB.out))) : w.heap.size ≤ gb143)); have n4_ := Aside0.mk ((by rw [hg]; exact (below_size (by repeat (first | (with_reducible first | exact HB.out | apply below_alloc | apply pw_below_drewN | apply below_drew1 | refine below_set ?_ GE142.out) | exact HB.out))) : w.heap.size ≤ gb143)); have n5_ := Aside0.mk ((by rw [hg]; exact Nat.ne_of_lt (blk_lt (g := gb142) (o := .cells #[.bool a0_0, .bool false, .int .i64 a0_2, .bool a0_3, .bool a0_4, .bool a0_5, .bool a0_6, .int .i64 a0_7, .bool a0_8, .bool a0_9, .bool a0_10, .bool a0_11, .bool a0_12, .bool a0_13, .bool a0_14, .bool a0_15, .int .i64 a0_16] 23 (0, 0)) (by (with_reducible repeat (first | refine blk_drewN ?_ _ | refine blk_drew ?_ | refine blk_alloc ?_ _)); exact BK142.out)) : gb142 ≠ gb143)); have n6_ := Aside0.mk ((by rw [hg]; exact Nat.ne_of_gt (blk_lt (g := gb142) (o := .cells #[.bool a0_0, .bool false, .int .i64 a0_2, .bool a0_3, .bool a0_4, .bool a0_5, .bool a0_6, .int .i64 a0_7, .bool a0_8, .bool a0_9, .bool a0_10, .bool a0_11, .bool a0_12, .bool a0_13, .bool a0_14, .bool a0_15, .int .i64 a0_16] 23 (0, 0)) (by (with_reducible repeat (first | refine blk_drewN ?_ _ | refine blk_drew ?_ | refine blk_alloc ?_ _)); exact BK142.out)) : gb143 ≠ gb142)); clear BK142; clear HB; have BK142 := n0_; have HB := n1_; have BK143 := n2_; have GW143 := n3_; have GE143 := n4_; have NB142_143 := n5_; have NB143_142 := n6_; clear n0_ n1_ n2_ n3_ n4_ n5_ n6_; clear hb hbox hg; have hnb114 := NB142_143.out; have hnc114 := NB143_142.out; have hcz115_0 : w113.cell? ⟨gb142, 0, none⟩ = some (.bool a0_0) := (blk_cell BK142.out 0).trans rfl; have hcz115_1 : w113.cell? ⟨gb142, 1, none⟩ = some (.bool false) := (blk_cell BK142.out 1).trans rfl; have hcz115_2 : w113.cell? ⟨gb142, 2, none⟩ = some (.int .i64 a0_2) := (blk_cell BK142.out 2).trans rfl; have hcz115_3 : w113.cell? ⟨gb142, 3, none⟩ = some (.bool a0_3) := (blk_cell BK142.out 3).trans rfl; have hcz115_4 : w113.cell? ⟨gb142, 4, none⟩ = some (.bool a0_4) := (blk_cell BK142.out 4).trans rfl; have hcz115_5 : w113.cell? ⟨gb142, 5, none⟩ = some (.bool a0_5) := (blk_cell BK142.out 5).trans rfl; have hcz115_6 : w113.cell? ⟨gb142, 6, none⟩ = some (.bool a0_6) := (blk_cell BK142.out 6).trans rfl; have hcz115_7 : w113.cell? ⟨gb142, 7, none⟩ = some (.int .i64 a0_7) := (blk_cell BK142.out 7).trans rfl; have hcz115_8 : w113.cell? ⟨gb142, 8, none⟩ = some (.bool a0_8) := (blk_cell BK142.out 8).trans rfl; have hcz115_9 : w113.cell? ⟨gb142, 9, none⟩ = some (.bool a0_9) := (blk_cell BK142.out 9).trans rfl; have hcz115_10 : w113.cell? ⟨gb142, 10, none⟩ = some (.bool a0_10) := (blk_cell BK142.out 10).trans rfl; have hcz115_11 : w113.cell? ⟨gb142, 11, none⟩ = some (.bool a0_11) := (blk_cell BK142.out 11).trans rfl; have hcz115_12 : w113.cell? ⟨gb142, 12, none⟩ = some (.bool a0_12) := (blk_cell BK142.out 12).trans rfl; have hcz115_13 : w113.cell? ⟨gb142, 13, none⟩ = some (.bool a0_13) := (blk_cell BK142.out 13).trans rfl; have hcz115_14 : w113.cell? ⟨gb142, 14, none⟩ = some (.bool a0_14) := (blk_cell BK142.out 14).trans rfl; have hcz115_15 : w113.cell? ⟨gb142, 15, none⟩ = some (.bool a0_15) := (blk_cell BK142.out 15).trans rfl; have hcz115_16 : w113.cell? ⟨gb142, 16, none⟩ = some (.int .i64 a0_16) := (blk_cell BK142.out 16).trans rfl; have hfz115_0 := blk_frozen BK142.out 0; have hfz115_1 := blk_frozen BK142.out 1; have hfz115_2 := blk_frozen BK142.out 2; have hfz115_3 := blk_frozen BK142.out 3; have hfz115_4 := blk_frozen BK142.out 4; have hfz115_5 := blk_frozen BK142.out 5; have hfz115_6 := blk_frozen BK142.out 6; have hfz115_7 := blk_frozen BK142.out 7; have hfz115_8 := blk_frozen BK142.out 8; have hfz115_9 := blk_frozen BK142.out 9; have hfz115_10 := blk_frozen BK142.out 10; have hfz115_11 := blk_frozen BK142.out 11; have hfz115_12 := blk_frozen BK142.out 12; have hfz115_13 := blk_frozen BK142.out 13; have hfz115_14 := blk_frozen BK142.out 14; have hfz115_15 := blk_frozen BK142.out 15; have hfz115_16 := blk_frozen BK142.out 16) | ((with_reducible refine gate_callee (f := 11) rfl ?_); refine goesL_ (some 6) rfl rfl Try.func11 (by kernel_rfl) rfl #[.agg #[.bool a0_0, .bool false, .int .i64 a0_2, .bool a0_3, .bool a0_4, .bool a0_5, .bool a0_6, .int .i64 a0_7, .bool a0_8, .bool a0_9, .bool a0_10, .bool a0_11, .bool a0_12, .bool a0_13, .bool a0_14, .bool a0_15, .int .i64 a0_16]] rfl (by (try simp only [List.map_toArray, List.map_cons, List.map_nil]); first | done | rfl | (simp only [List.length_drop, List.length_take]; rfl)) ?_; (with_reducible refine (estoversref26_Check.calls k a0_0 false a0_2 a0_3 a0_4 a0_5 a0_6 a0_7 a0_8 a0_9 a0_10 a0_11 a0_12 a0_13 a0_14 a0_15 a0_16 t144 _ A2.out).mono ?_); rintro e w116 ⟨rfl, hb⟩; refine ⟨_, rfl, ?_⟩; have n0_ := Aside0.mk (blk_below (g := gb142) (o := .cells #[.bool a0_0, .bool false, .int .i64 a0_2, .bool a0_3, .bool a0_4, .bool a0_5, .bool a0_6, .int .i64 a0_7, .bool a0_8, .bool a0_9, .bool a0_10, .bool a0_11, .bool a0_12, .bool a0_13, .bool a0_14, .bool a0_15, .int .i64 a0_16] 23 (0, 0)) (by (with_reducible repeat (first | refine blk_drewN ?_ _ | refine blk_drew ?_ | refine blk_alloc ?_ _)); exact BK142.out) hb); have n1_ := Aside0.mk (blk_below (g := gb143) (o := .cells #[.int .i64 0, .int .i64 0, .int .i64 0, .int .i64 0, .int .i64 0] 28 (0, 0)) (by (with_reducible repeat (first | refine blk_drewN ?_ _ | refine blk_drew ?_ | refine blk_alloc ?_ _)); exact BK143.out) hb); have n2_ := Aside0.mk (below_step (by repeat (first | (with_reducible first | exact HB.out | apply below_alloc | apply pw_below_drewN | apply below_drew1 | refine below_set ?_ GE142.out | refine below_set ?_ GE143.out) | exact HB.out)) hb); clear BK142; clear BK143; clear HB; have BK142 := n0_; have BK143 := n1_; have HB := n2_; clear n0_ n1_ n2_; (try clear hb); (try clear hb2); (try clear hk); (try clear hi); have hcz117_0 : w116.cell? ⟨gb142, 0, none⟩ = some (.bool a0_0) := (blk_cell BK142.out 0).trans rfl; have hcz117_1 : w116.cell? ⟨gb142, 1, none⟩ = some (.bool false) := (blk_cell BK142.out 1).trans rfl; have hcz117_2 : w116.cell? ⟨gb142, 2, none⟩ = some (.int .i64 a0_2) := (blk_cell BK142.out 2).trans rfl; have hcz117_3 : w116.cell? ⟨gb142, 3, none⟩ = some (.bool a0_3) := (blk_cell BK142.out 3).trans rfl; have hcz117_4 : w116.cell? ⟨gb142, 4, none⟩ = some (.bool a0_4) := (blk_cell BK142.out 4).trans rfl; have hcz117_5 : w116.cell? ⟨gb142, 5, none⟩ = some (.bool a0_5) := (blk_cell BK142.out 5).trans rfl; have hcz117_6 : w116.cell? ⟨gb142, 6, none⟩ = some (.bool a0_6) := (blk_cell BK142.out 6).trans rfl; have hcz117_7 : w116.cell? ⟨gb142, 7, none⟩ = some (.int .i64 a0_7) := (blk_cell BK142.out 7).trans rfl; have hcz117_8 : w116.cell? ⟨gb142, 8, none⟩ = some (.bool a0_8) := (blk_cell BK142.out 8).trans rfl; have hcz117_9 : w116.cell? ⟨gb142, 9, none⟩ = some (.bool a0_9) := (blk_cell BK142.out 9).trans rfl; have hcz117_10 : w116.cell? ⟨gb142, 10, none⟩ = some (.bool a0_10) := (blk_cell BK142.out 10).trans rfl; have hcz117_11 : w116.cell? ⟨gb142, 11, none⟩ = some (.bool a0_11) := (blk_cell BK142.out 11).trans rfl; have hcz117_12 : w116.cell? ⟨gb142, 12, none⟩ = some (.bool a0_12) := (blk_cell BK142.out 12).trans rfl; have hcz117_13 : w116.cell? ⟨gb142, 13, none⟩ = some (.bool a0_13) := (blk_cell BK142.out 13).trans rfl; have hcz117_14 : w116.cell? ⟨gb142, 14, none⟩ = some (.bool a0_14) := (blk_cell BK142.out 14).trans rfl; have hcz117_15 : w116.cell? ⟨gb142, 15, none⟩ = some (.bool a0_15) := (blk_cell BK142.out 15).trans rfl; have hcz117_16 : w116.cell? ⟨gb142, 16, none⟩ = some (.int .i64 a0_16) := (blk_cell BK142.out 16).trans rfl; have hfz117_0 := blk_frozen BK142.out 0; have hfz117_1 := blk_frozen BK142.out 1; have hfz117_2 := blk_frozen BK142.out 2; have hfz117_3 := blk_frozen BK142.out 3; have hfz117_4 := blk_frozen BK142.out 4; have hfz117_5 := blk_frozen BK142.out 5; have hfz117_6 := blk_frozen BK142.out 6; have hfz117_7 := blk_frozen BK142.out 7; have hfz117_8 := blk_frozen BK142.out 8; have hfz117_9 := blk_frozen BK142.out 9; have hfz117_10 := blk_frozen BK142.out 10; have hfz117_11 := blk_frozen BK142.out 11; have hfz117_12 := blk_frozen BK142.out 12; have hfz117_13 := blk_frozen BK142.out 13; have hfz117_14 := blk_frozen BK142.out 14; have hfz117_15 := blk_frozen BK142.out 15; have hfz117_16 := blk_frozen BK142.out 16) | ((with_reducible refine gate_callee (f := 21) rfl ?_); refine goesL_ (some 14) rfl rfl Try.func21 (by kernel_rfl) rfl #[.int .i64 13] rfl (by (try simp only [List.map_toArray, List.map_cons, List.map_nil]); first | done | rfl | (simp only [List.length_drop, List.length_take]; rfl)) ?_; (with_reducible refine (estoversref26_refuse.calls 13 t145 t146 t147 t148 t149 t150 _ A111.out).mono ?_); rintro e w118 ⟨rfl, hb⟩; refine ⟨_, rfl, ?_⟩; have n0_ := Aside0.mk (blk_below (g := gb142) (o := .cells #[.bool a0_0, .bool false, .int .i64 a0_2, .bool a0_3, .bool a0_4, .bool a0_5, .bool a0_6, .int .i64 a0_7, .bool a0_8, .bool a0_9, .bool a0_10, .bool a0_11, .bool a0_12, .bool a0_13, .bool a0_14, .bool a0_15, .int .i64 a0_16] 23 (0, 0)) (by (with_reducible repeat (first | refine blk_drewN ?_ _ | refine blk_drew ?_ | refine blk_alloc ?_ _)); exact BK142.out) hb); have n1_ := Aside0.mk (blk_below (g := gb143) (o := .cells #[.int .i64 0, .int .i64 0, .int .i64 0, .int .i64 0, .int .i64 0] 28 (0, 0)) (by (with_reducible repeat (first | refine blk_drewN ?_ _ | refine blk_drew ?_ | refine blk_alloc ?_ _)); exact BK143.out) hb); have n2_ := Aside0.mk (below_step (by repeat (first | (with_reducible first | exact HB.out | apply below_alloc | apply pw_below_drewN | apply below_drew1 | refine below_set ?_ GE142.out | refine below_set ?_ GE143.out) | exact HB.out)) hb); clear BK142; clear BK143; clear HB; have BK142 := n0_; have BK143 := n1_; have HB := n2_; clear n0_ n1_ n2_; (try clear hb); (try clear hb2); (try clear hk); (try clear hi); have hcz119_0 : w118.cell? ⟨gb143, 0, none⟩ = some (.int .i64 0) := (blk_cell BK143.out 0).trans rfl; have hcz119_1 : w118.cell? ⟨gb143, 1, none⟩ = some (.int .i64 0) := (blk_cell BK143.out 1).trans rfl; have hcz119_2 : w118.cell? ⟨gb143, 2, none⟩ = some (.int .i64 0) := (blk_cell BK143.out 2).trans rfl; have hcz119_3 : w118.cell? ⟨gb143, 3, none⟩ = some (.int .i64 0) := (blk_cell BK143.out 3).trans rfl; have hcz119_4 : w118.cell? ⟨gb143, 4, none⟩ = some (.int .i64 0) := (blk_cell BK143.out 4).trans rfl; have hfz119_0 := blk_frozen BK143.out 0; have hfz119_1 := blk_frozen BK143.out 1; have hfz119_2 := blk_frozen BK143.out 2; have hfz119_3 := blk_frozen BK143.out 3; have hfz119_4 := blk_frozen BK143.out 4))
      refine bodyPost_ret (results_ct rfl _ _ gb143 28 #[.int .i64 t145, .int .i64 t146, .int .i64 t147, .int .i64 t148, .int .i64 t149] (0, 0) _ rfl (by (with_reducible repeat (first | refine blk_drewN ?_ _ | refine blk_drew ?_ | refine blk_alloc ?_ _)); refine blk_put (cs := #[.int .i64 t145, .int .i64 t146, .int .i64 t147, .int .i64 t148, .int .i64 0]) ?_ 4 _ rfl; (with_reducible repeat (first | refine blk_drewN ?_ _ | refine blk_drew ?_ | refine blk_alloc ?_ _)); refine blk_put (cs := #[.int .i64 t145, .int .i64 t146, .int .i64 t147, .int .i64 0, .int .i64 0]) ?_ 3 _ rfl; (with_reducible repeat (first | refine blk_drewN ?_ _ | refine blk_drew ?_ | refine blk_alloc ?_ _)); refine blk_put (cs := #[.int .i64 t145, .int .i64 t146, .int .i64 0, .int .i64 0, .int .i64 0]) ?_ 2 _ rfl; (with_reducible repeat (first | refine blk_drewN ?_ _ | refine blk_drew ?_ | refine blk_alloc ?_ _)); refine blk_put (cs := #[.int .i64 t145, .int .i64 0, .int .i64 0, .int .i64 0, .int .i64 0]) ?_ 1 _ rfl; (with_reducible repeat (first | refine blk_drewN ?_ _ | refine blk_drew ?_ | refine blk_alloc ?_ _)); refine blk_put (cs := #[.int .i64 0, .int .i64 0, .int .i64 0, .int .i64 0, .int .i64 0]) ?_ 0 _ rfl; (with_reducible repeat (first | refine blk_drewN ?_ _ | refine blk_drew ?_ | refine blk_alloc ?_ _)); exact BK143.out) Try.underlying28 rfl (by kernel_rfl)) rfl ?_
      exact ⟨by first | rfl | (simp [errW_none, errW_some] <;> rfl) | (simp [*, errW_none, errW_some] <;> rfl), by repeat (first | (with_reducible first | exact HB.out | apply below_alloc | apply pw_below_drewN | apply below_drew1 | refine below_set ?_ GE142.out | refine below_set ?_ GE143.out) | exact HB.out)⟩
  · rw [if_neg c3] at H
    have c3b0 : (t144 == 0) = false := beq_eq_false_iff_ne.mpr c3
    have c3b1 : (t144 != 0) = true := bne_iff_ne.mpr c3
    simp only [Option.some.injEq, Prod.mk.injEq] at H
    obtain ⟨rfl, rfl, rfl, rfl, rfl, rfl⟩ := H
    go_enter Try.func14, Try.ntmps14
    go_wp2_with (first | ((with_reducible refine gate_dst (N := 1) rfl ?_); refine box_event ?hg (N := 1) ?hd (cs := #[.bool a0_0, .bool a0_1, .int .i64 a0_2, .bool a0_3, .bool a0_4, .bool a0_5, .bool a0_6, .int .i64 a0_7, .bool a0_8, .bool a0_9, .bool a0_10, .bool a0_11, .bool a0_12, .bool a0_13, .bool a0_14, .bool a0_15, .int .i64 a0_16]) (t := 23) ?hr ?_; (case hd => rfl); (case hg => rfl); (case hr => first | (go_simp; done) | (go_simp; rfl)); intro gb142 hg w120 hbox hb; have n0_ := Aside0.mk (below_step (by repeat (first | (with_reducible first | exact HB.out | apply below_alloc | apply pw_below_drewN | apply below_drew1) | exact HB.out)) hb); have n1_ := Aside0.mk (hbox); have n2_ := Aside0.mk ((by rw [hg]; exact (below_size (by repeat (first | (with_reducible first | exact HB.out | apply below_alloc | apply pw_below_drewN | apply below_drew1) | exact HB.out))) : w.heap.size ≤ gb142)); have n3_ := Aside0.mk ((by rw [hg]; exact (below_size (by repeat (first | (with_reducible first | exact HB.out | apply below_alloc | apply pw_below_drewN | apply below_drew1) | exact HB.out))) : w.heap.size ≤ gb142)); clear HB; have HB := n0_; have BK142 := n1_; have GW142 := n2_; have GE142 := n3_; clear n0_ n1_ n2_ n3_; clear hb hbox hg) | ((with_reducible refine gate_dst (N := 2) rfl ?_); refine box_event ?hg (N := 2) ?hd (cs := #[.int .i64 0, .int .i64 0, .int .i64 0, .int .i64 0, .int .i64 0]) (t := 28) ?hr ?_; (case hd => rfl); (case hg => rfl); (case hr => first | (go_simp; done) | (go_simp; rfl)); intro gb143 hg w121 hbox hb; have n0_ := Aside0.mk (blk_below (g := gb142) (o := .cells #[.bool a0_0, .bool a0_1, .int .i64 a0_2, .bool a0_3, .bool a0_4, .bool a0_5, .bool a0_6, .int .i64 a0_7, .bool a0_8, .bool a0_9, .bool a0_10, .bool a0_11, .bool a0_12, .bool a0_13, .bool a0_14, .bool a0_15, .int .i64 a0_16] 23 (0, 0)) (by (with_reducible repeat (first | refine blk_drewN ?_ _ | refine blk_drew ?_ | refine blk_alloc ?_ _)); exact BK142.out) hb); have n1_ := Aside0.mk (below_step (by repeat (first | (with_reducible first | exact HB.out | apply below_alloc | apply pw_below_drewN | apply below_drew1 | refine below_set ?_ GE142.out) | exact HB.out)) hb); have n2_ := Aside0.mk (hbox); have n3_ := Aside0.mk ((by rw [hg]; exact (below_size (by repeat (first | (with_reducible first | exact HB.out | apply below_alloc | apply pw_below_drewN | apply below_drew1 | refine below_set ?_ GE142.out) | exact HB.out))) : w.heap.size ≤ gb143)); have n4_ := Aside0.mk ((by rw [hg]; exact (below_size (by repeat (first | (with_reducible first | exact HB.out | apply below_alloc | apply pw_below_drewN | apply below_drew1 | refine below_set ?_ GE142.out) | exact HB.out))) : w.heap.size ≤ gb143)); have n5_ := Aside0.mk ((by rw [hg]; exact Nat.ne_of_lt (blk_lt (g := gb142) (o := .cells #[.bool a0_0, .bool a0_1, .int .i64 a0_2, .bool a0_3, .bool a0_4, .bool a0_5, .bool a0_6, .int .i64 a0_7, .bool a0_8, .bool a0_9, .bool a0_10, .bool a0_11, .bool a0_12, .bool a0_13, .bool a0_14, .bool a0_15, .int .i64 a0_16] 23 (0, 0)) (by (with_reducible repeat (first | refine blk_drewN ?_ _ | refine blk_drew ?_ | refine blk_alloc ?_ _)); exact BK142.out)) : gb142 ≠ gb143)); have n6_ := Aside0.mk ((by rw [hg]; exact Nat.ne_of_gt (blk_lt (g := gb142) (o := .cells #[.bool a0_0, .bool a0_1, .int .i64 a0_2, .bool a0_3, .bool a0_4, .bool a0_5, .bool a0_6, .int .i64 a0_7, .bool a0_8, .bool a0_9, .bool a0_10, .bool a0_11, .bool a0_12, .bool a0_13, .bool a0_14, .bool a0_15, .int .i64 a0_16] 23 (0, 0)) (by (with_reducible repeat (first | refine blk_drewN ?_ _ | refine blk_drew ?_ | refine blk_alloc ?_ _)); exact BK142.out)) : gb143 ≠ gb142)); clear BK142; clear HB; have BK142 := n0_; have HB := n1_; have BK143 := n2_; have GW143 := n3_; have GE143 := n4_; have NB142_143 := n5_; have NB143_142 := n6_; clear n0_ n1_ n2_ n3_ n4_ n5_ n6_; clear hb hbox hg; have hnb122 := NB142_143.out; have hnc122 := NB143_142.out; have hcz123_0 : w121.cell? ⟨gb142, 0, none⟩ = some (.bool a0_0) := (blk_cell BK142.out 0).trans rfl; have hcz123_1 : w121.cell? ⟨gb142, 1, none⟩ = some (.bool a0_1) := (blk_cell BK142.out 1).trans rfl; have hcz123_2 : w121.cell? ⟨gb142, 2, none⟩ = some (.int .i64 a0_2) := (blk_cell BK142.out 2).trans rfl; have hcz123_3 : w121.cell? ⟨gb142, 3, none⟩ = some (.bool a0_3) := (blk_cell BK142.out 3).trans rfl; have hcz123_4 : w121.cell? ⟨gb142, 4, none⟩ = some (.bool a0_4) := (blk_cell BK142.out 4).trans rfl; have hcz123_5 : w121.cell? ⟨gb142, 5, none⟩ = some (.bool a0_5) := (blk_cell BK142.out 5).trans rfl; have hcz123_6 : w121.cell? ⟨gb142, 6, none⟩ = some (.bool a0_6) := (blk_cell BK142.out 6).trans rfl; have hcz123_7 : w121.cell? ⟨gb142, 7, none⟩ = some (.int .i64 a0_7) := (blk_cell BK142.out 7).trans rfl; have hcz123_8 : w121.cell? ⟨gb142, 8, none⟩ = some (.bool a0_8) := (blk_cell BK142.out 8).trans rfl; have hcz123_9 : w121.cell? ⟨gb142, 9, none⟩ = some (.bool a0_9) := (blk_cell BK142.out 9).trans rfl; have hcz123_10 : w121.cell? ⟨gb142, 10, none⟩ = some (.bool a0_10) := (blk_cell BK142.out 10).trans rfl; have hcz123_11 : w121.cell? ⟨gb142, 11, none⟩ = some (.bool a0_11) := (blk_cell BK142.out 11).trans rfl; have hcz123_12 : w121.cell? ⟨gb142, 12, none⟩ = some (.bool a0_12) := (blk_cell BK142.out 12).trans rfl; have hcz123_13 : w121.cell? ⟨gb142, 13, none⟩ = some (.bool a0_13) := (blk_cell BK142.out 13).trans rfl; have hcz123_14 : w121.cell? ⟨gb142, 14, none⟩ = some (.bool a0_14) := (blk_cell BK142.out 14).trans rfl; have hcz123_15 : w121.cell? ⟨gb142, 15, none⟩ = some (.bool a0_15) := (blk_cell BK142.out 15).trans rfl; have hcz123_16 : w121.cell? ⟨gb142, 16, none⟩ = some (.int .i64 a0_16) := (blk_cell BK142.out 16).trans rfl; have hfz123_0 := blk_frozen BK142.out 0; have hfz123_1 := blk_frozen BK142.out 1; have hfz123_2 := blk_frozen BK142.out 2; have hfz123_3 := blk_frozen BK142.out 3; have hfz123_4 := blk_frozen BK142.out 4; have hfz123_5 := blk_frozen BK142.out 5; have hfz123_6 := blk_frozen BK142.out 6; have hfz123_7 := blk_frozen BK142.out 7; have hfz123_8 := blk_frozen BK142.out 8; have hfz123_9 := blk_frozen BK142.out 9; have hfz123_10 := blk_frozen BK142.out 10; have hfz123_11 := blk_frozen BK142.out 11; have hfz123_12 := blk_frozen BK142.out 12; have hfz123_13 := blk_frozen BK142.out 13; have hfz123_14 := blk_frozen BK142.out 14; have hfz123_15 := blk_frozen BK142.out 15; have hfz123_16 := blk_frozen BK142.out 16) | ((with_reducible refine gate_callee (f := 11) rfl ?_); refine goesL_ (some 6) rfl rfl Try.func11 (by kernel_rfl) rfl #[.agg #[.bool a0_0, .bool a0_1, .int .i64 a0_2, .bool a0_3, .bool a0_4, .bool a0_5, .bool a0_6, .int .i64 a0_7, .bool a0_8, .bool a0_9, .bool a0_10, .bool a0_11, .bool a0_12, .bool a0_13, .bool a0_14, .bool a0_15, .int .i64 a0_16]] rfl (by (try simp only [List.map_toArray, List.map_cons, List.map_nil]); first | done | rfl | (simp only [List.length_drop, List.length_take]; rfl)) ?_; (with_reducible refine (estoversref26_Check.calls k a0_0 a0_1 a0_2 a0_3 a0_4 a0_5 a0_6 a0_7 a0_8 a0_9 a0_10 a0_11 a0_12 a0_13 a0_14 a0_15 a0_16 t144 _ A2.out).mono ?_); rintro e w124 ⟨rfl, hb⟩; refine ⟨_, rfl, ?_⟩; have n0_ := Aside0.mk (blk_below (g := gb142) (o := .cells #[.bool a0_0, .bool a0_1, .int .i64 a0_2, .bool a0_3, .bool a0_4, .bool a0_5, .bool a0_6, .int .i64 a0_7, .bool a0_8, .bool a0_9, .bool a0_10, .bool a0_11, .bool a0_12, .bool a0_13, .bool a0_14, .bool a0_15, .int .i64 a0_16] 23 (0, 0)) (by (with_reducible repeat (first | refine blk_drewN ?_ _ | refine blk_drew ?_ | refine blk_alloc ?_ _)); exact BK142.out) hb); have n1_ := Aside0.mk (blk_below (g := gb143) (o := .cells #[.int .i64 0, .int .i64 0, .int .i64 0, .int .i64 0, .int .i64 0] 28 (0, 0)) (by (with_reducible repeat (first | refine blk_drewN ?_ _ | refine blk_drew ?_ | refine blk_alloc ?_ _)); exact BK143.out) hb); have n2_ := Aside0.mk (below_step (by repeat (first | (with_reducible first | exact HB.out | apply below_alloc | apply pw_below_drewN | apply below_drew1 | refine below_set ?_ GE142.out | refine below_set ?_ GE143.out) | exact HB.out)) hb); clear BK142; clear BK143; clear HB; have BK142 := n0_; have BK143 := n1_; have HB := n2_; clear n0_ n1_ n2_; (try clear hb); (try clear hb2); (try clear hk); (try clear hi); have hcz125_0 : w124.cell? ⟨gb143, 0, none⟩ = some (.int .i64 0) := (blk_cell BK143.out 0).trans rfl; have hcz125_1 : w124.cell? ⟨gb143, 1, none⟩ = some (.int .i64 0) := (blk_cell BK143.out 1).trans rfl; have hcz125_2 : w124.cell? ⟨gb143, 2, none⟩ = some (.int .i64 0) := (blk_cell BK143.out 2).trans rfl; have hcz125_3 : w124.cell? ⟨gb143, 3, none⟩ = some (.int .i64 0) := (blk_cell BK143.out 3).trans rfl; have hcz125_4 : w124.cell? ⟨gb143, 4, none⟩ = some (.int .i64 0) := (blk_cell BK143.out 4).trans rfl; have hfz125_0 := blk_frozen BK143.out 0; have hfz125_1 := blk_frozen BK143.out 1; have hfz125_2 := blk_frozen BK143.out 2; have hfz125_3 := blk_frozen BK143.out 3; have hfz125_4 := blk_frozen BK143.out 4))
    refine bodyPost_ret (results_ct rfl _ _ gb143 28 #[.int .i64 0, .int .i64 0, .int .i64 0, .int .i64 0, .int .i64 0] (0, 0) _ rfl (by (with_reducible repeat (first | refine blk_drewN ?_ _ | refine blk_drew ?_ | refine blk_alloc ?_ _)); refine blk_put (cs := #[.int .i64 0, .int .i64 0, .int .i64 0, .int .i64 0, .int .i64 0]) ?_ 4 _ rfl; (with_reducible repeat (first | refine blk_drewN ?_ _ | refine blk_drew ?_ | refine blk_alloc ?_ _)); refine blk_put (cs := #[.int .i64 0, .int .i64 0, .int .i64 0, .int .i64 0, .int .i64 0]) ?_ 3 _ rfl; (with_reducible repeat (first | refine blk_drewN ?_ _ | refine blk_drew ?_ | refine blk_alloc ?_ _)); refine blk_put (cs := #[.int .i64 0, .int .i64 0, .int .i64 0, .int .i64 0, .int .i64 0]) ?_ 2 _ rfl; (with_reducible repeat (first | refine blk_drewN ?_ _ | refine blk_drew ?_ | refine blk_alloc ?_ _)); refine blk_put (cs := #[.int .i64 0, .int .i64 0, .int .i64 0, .int .i64 0, .int .i64 0]) ?_ 1 _ rfl; (with_reducible repeat (first | refine blk_drewN ?_ _ | refine blk_drew ?_ | refine blk_alloc ?_ _)); refine blk_put (cs := #[.int .i64 0, .int .i64 0, .int .i64 0, .int .i64 0, .int .i64 0]) ?_ 0 _ rfl; (with_reducible repeat (first | refine blk_drewN ?_ _ | refine blk_drew ?_ | refine blk_alloc ?_ _)); exact BK143.out) Try.underlying28 rfl (by kernel_rfl)) rfl ?_
    exact ⟨by first | rfl | (simp [errW_none, errW_some] <;> rfl) | (simp [*, errW_none, errW_some] <;> rfl), by repeat (first | (with_reducible first | exact HB.out | apply below_alloc | apply pw_below_drewN | apply below_drew1 | refine below_set ?_ GE142.out | refine below_set ?_ GE143.out) | exact HB.out)⟩

end Go.Proofs.Ytfobedaepflidaa.F

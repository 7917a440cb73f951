-- Written by a program of this session (own_print.py) that runs the kit's printer. Lean checks it.
import Derived.Test.YtfobedaepflidaaF0
import Derived.Test.YtfobedaepflidaaF7
import Derived.Test.YtfobedaepflidaaF10
import Derived.Test.YtfobedaepflidaaF12
import Derived.Test.YtfobedaepflidaaF13
namespace Go.Proofs.Ytfobedaepflidaa.F
open Go.RowKit Go.Proofs.YtfobedaepflidaaW.PrintWords Go.Proofs.YtfobedaepflidaaW.PrintLast Go.Proofs.YtfobedaepflidaaW.PrintMore
attribute [local go_sem] max2_int min2_int max_two min_two max_three min_three max_four min_four   -- for this text's walks alone
set_option linter.unusedVariables false
set_option linter.unusedSimpArgs false

attribute [local go_sem ↓ high] ld23a sv23a
attribute [local go_sem high] ld23 sv23
/-! ### estoverslaw26_FaultplanPrivate: function 9 -/
mutual
def estoverslaw26_FaultplanPrivate.j0 : Nat → Bool → Bool → Bool → Int → Bool → Bool → Bool → Bool → Int → Bool → Bool → Bool → Bool → Bool → Bool → Bool → Bool → Int → Option (Bool)
  | 0, _, _, _, _, _, _, _, _, _, _, _, _, _, _, _, _, _, _ => none
  | k + 1, x16, x350000, x350001, x350002, x350003, x350004, x350005, x350006, x350007, x350008, x350009, x350010, x350011, x350012, x350013, x350014, x350015, x350016 => if x16 = true then ((estoverslaw26_awake.f k).bind fun t351 => (some t351)) else (estoverslaw26_FaultplanPrivate.l0 k x350014 0 x350000 x350001 x350002 x350003 x350004 x350005 x350006 x350007 x350008 x350009 x350010 x350011 x350012 x350013 x350014 x350015 x350016)
def estoverslaw26_FaultplanPrivate.l0 : Nat → Bool → Int → Bool → Bool → Int → Bool → Bool → Bool → Bool → Int → Bool → Bool → Bool → Bool → Bool → Bool → Bool → Bool → Int → Option (Bool)
  | 0, _, _, _, _, _, _, _, _, _, _, _, _, _, _, _, _, _, _, _ => none
  | k + 1, x3, x20, x350000, x350001, x350002, x350003, x350004, x350005, x350006, x350007, x350008, x350009, x350010, x350011, x350012, x350013, x350014, x350015, x350016 => if x20 < 8 then ((faultplan_Plan.f k x350000 x350001 x350002 x350003 x350004 x350005 x350006 x350007 x350008 x350009 x350010 x350011 x350012 x350013 x350014 x350015 x350016).bind fun bt352 => ((faultplan_After.f k x350000 x350001 x350002 x350003 x350004 x350005 x350006 x350007 x350008 x350009 x350010 x350011 x350012 x350013 x350014 x350015 x350016).bind fun bt359 => (if bt352.2.2.2.2.2 = 0 then (estoverslaw26_FaultplanPrivate.j2 k x3 bt359.2.2.2.2.2.2.2.2.2.2.2.2.2.2.2.2.2.1 x20 (bt359.2.2.2.2.2.2.2.2.2.2.2.2.2.2.2.2.2.2 != 0) x350000 x350001 x350002 x350003 x350004 x350005 x350006 x350007 x350008 x350009 x350010 x350011 x350012 x350013 x350014 x350015 x350016 bt352.1 bt352.2.1 bt352.2.2.1 bt352.2.2.2.1 bt352.2.2.2.2.1 bt359.1 bt359.2.1 bt359.2.2.1 bt359.2.2.2.1 bt359.2.2.2.2.1 bt359.2.2.2.2.2.1 bt359.2.2.2.2.2.2.1 bt359.2.2.2.2.2.2.2.1 bt359.2.2.2.2.2.2.2.2.1 bt359.2.2.2.2.2.2.2.2.2.1 bt359.2.2.2.2.2.2.2.2.2.2.1 bt359.2.2.2.2.2.2.2.2.2.2.2.1 bt359.2.2.2.2.2.2.2.2.2.2.2.2.1 bt359.2.2.2.2.2.2.2.2.2.2.2.2.2.1 bt359.2.2.2.2.2.2.2.2.2.2.2.2.2.2.1 bt359.2.2.2.2.2.2.2.2.2.2.2.2.2.2.2.1 bt359.2.2.2.2.2.2.2.2.2.2.2.2.2.2.2.2.1) else (estoverslaw26_FaultplanPrivate.j2 k x3 bt359.2.2.2.2.2.2.2.2.2.2.2.2.2.2.2.2.2.1 x20 true x350000 x350001 x350002 x350003 x350004 x350005 x350006 x350007 x350008 x350009 x350010 x350011 x350012 x350013 x350014 x350015 x350016 bt352.1 bt352.2.1 bt352.2.2.1 bt352.2.2.2.1 bt352.2.2.2.2.1 bt359.1 bt359.2.1 bt359.2.2.1 bt359.2.2.2.1 bt359.2.2.2.2.1 bt359.2.2.2.2.2.1 bt359.2.2.2.2.2.2.1 bt359.2.2.2.2.2.2.2.1 bt359.2.2.2.2.2.2.2.2.1 bt359.2.2.2.2.2.2.2.2.2.1 bt359.2.2.2.2.2.2.2.2.2.2.1 bt359.2.2.2.2.2.2.2.2.2.2.2.1 bt359.2.2.2.2.2.2.2.2.2.2.2.2.1 bt359.2.2.2.2.2.2.2.2.2.2.2.2.2.1 bt359.2.2.2.2.2.2.2.2.2.2.2.2.2.2.1 bt359.2.2.2.2.2.2.2.2.2.2.2.2.2.2.2.1 bt359.2.2.2.2.2.2.2.2.2.2.2.2.2.2.2.2.1)))) else (some false)
def estoverslaw26_FaultplanPrivate.j2 : Nat → Bool → Bool → Int → Bool → Bool → Bool → Int → Bool → Bool → Bool → Bool → Int → Bool → Bool → Bool → Bool → Bool → Bool → Bool → Bool → Int → Int → Int → Int → Int → Int → Bool → Bool → Int → Bool → Bool → Bool → Bool → Int → Bool → Bool → Bool → Bool → Bool → Bool → Bool → Bool → Int → Option (Bool)
  | 0, _, _, _, _, _, _, _, _, _, _, _, _, _, _, _, _, _, _, _, _, _, _, _, _, _, _, _, _, _, _, _, _, _, _, _, _, _, _, _, _, _, _, _ => none
  | k + 1, x3, x7, x20, x38, x350000, x350001, x350002, x350003, x350004, x350005, x350006, x350007, x350008, x350009, x350010, x350011, x350012, x350013, x350014, x350015, x350016, x359000, x359001, x359002, x359003, x359004, x379000, x379001, x379002, x379003, x379004, x379005, x379006, x379007, x379008, x379009, x379010, x379011, x379012, x379013, x379014, x379015, x379016 => if x38 = true then (some false) else (if x350003 = true then (if x359000 = 9 then (estoverslaw26_FaultplanPrivate.j3 k x3 x7 x20 true x379000 x379001 x379002 x379003 x379004 x379005 x379006 x379007 x379008 x379009 x379010 x379011 x379012 x379013 x379014 x379015 x379016) else (estoverslaw26_FaultplanPrivate.j3 k x3 x7 x20 x379010 x379000 x379001 x379002 x379003 x379004 x379005 x379006 x379007 x379008 x379009 x379010 x379011 x379012 x379013 x379014 x379015 x379016)) else (if x359000 = 7 then (estoverslaw26_FaultplanPrivate.j3 k x3 x7 x20 true x379000 x379001 x379002 x379003 x379004 x379005 x379006 x379007 x379008 x379009 x379010 x379011 x379012 x379013 x379014 x379015 x379016) else (if (x379014 != x3) = true then (estoverslaw26_FaultplanPrivate.j3 k x3 x7 x20 true x379000 x379001 x379002 x379003 x379004 x379005 x379006 x379007 x379008 x379009 x379010 x379011 x379012 x379013 x379014 x379015 x379016) else (estoverslaw26_FaultplanPrivate.j3 k x3 x7 x20 false x379000 x379001 x379002 x379003 x379004 x379005 x379006 x379007 x379008 x379009 x379010 x379011 x379012 x379013 x379014 x379015 x379016))))
def estoverslaw26_FaultplanPrivate.j3 : Nat → Bool → Bool → Int → Bool → Bool → Bool → Int → Bool → Bool → Bool → Bool → Int → Bool → Bool → Bool → Bool → Bool → Bool → Bool → Bool → Int → Option (Bool)
  | 0, _, _, _, _, _, _, _, _, _, _, _, _, _, _, _, _, _, _, _, _, _ => none
  | k + 1, x3, x7, x20, x65, x379000, x379001, x379002, x379003, x379004, x379005, x379006, x379007, x379008, x379009, x379010, x379011, x379012, x379013, x379014, x379015, x379016 => if x65 = true then (some false) else (if x7 = true then ((estoverslaw26_awake.f k).bind fun t379 => (some t379)) else (estoverslaw26_FaultplanPrivate.l0 k x3 (wrap64 (x20 + 1)) x379000 x379001 x379002 x379003 x379004 x379005 x379006 x379007 x379008 x379009 x379010 x379011 x379012 x379013 x379014 x379015 x379016))
end
def estoverslaw26_FaultplanPrivate.f (k : Nat) (a0_0 : Bool) (a0_1 : Bool) (a0_2 : Int) (a0_3 : Bool) (a0_4 : Bool) (a0_5 : Bool) (a0_6 : Bool) (a0_7 : Int) (a0_8 : Bool) (a0_9 : Bool) (a0_10 : Bool) (a0_11 : Bool) (a0_12 : Bool) (a0_13 : Bool) (a0_14 : Bool) (a0_15 : Bool) (a0_16 : Int) : Option (Bool) := if a0_1 = true then ((estoversref26_Check.f k a0_0 a0_1 a0_2 a0_3 a0_4 a0_5 a0_6 a0_7 a0_8 a0_9 a0_10 a0_11 a0_12 a0_13 a0_14 a0_15 a0_16).bind fun t350 => (estoverslaw26_FaultplanPrivate.j0 k (t350 != 0) a0_0 a0_1 a0_2 a0_3 a0_4 a0_5 a0_6 a0_7 a0_8 a0_9 a0_10 a0_11 a0_12 a0_13 a0_14 a0_15 a0_16)) else (estoverslaw26_FaultplanPrivate.j0 k true a0_0 a0_1 a0_2 a0_3 a0_4 a0_5 a0_6 a0_7 a0_8 a0_9 a0_10 a0_11 a0_12 a0_13 a0_14 a0_15 a0_16)
theorem estoverslaw26_FaultplanPrivate.mono_l : ∀ k, (∀ y0 y1 y2 y3 y4 y5 y6 y7 y8 y9 y10 y11 y12 y13 y14 y15 y16 y17, LeO (estoverslaw26_FaultplanPrivate.j0 k y0 y1 y2 y3 y4 y5 y6 y7 y8 y9 y10 y11 y12 y13 y14 y15 y16 y17) (estoverslaw26_FaultplanPrivate.j0 (k + 1) y0 y1 y2 y3 y4 y5 y6 y7 y8 y9 y10 y11 y12 y13 y14 y15 y16 y17)) ∧ (∀ y0 y1 y2 y3 y4 y5 y6 y7 y8 y9 y10 y11 y12 y13 y14 y15 y16 y17 y18, LeO (estoverslaw26_FaultplanPrivate.l0 k y0 y1 y2 y3 y4 y5 y6 y7 y8 y9 y10 y11 y12 y13 y14 y15 y16 y17 y18) (estoverslaw26_FaultplanPrivate.l0 (k + 1) y0 y1 y2 y3 y4 y5 y6 y7 y8 y9 y10 y11 y12 y13 y14 y15 y16 y17 y18)) ∧ (∀ y0 y1 y2 y3 y4 y5 y6 y7 y8 y9 y10 y11 y12 y13 y14 y15 y16 y17 y18 y19 y20 y21 y22 y23 y24 y25 y26 y27 y28 y29 y30 y31 y32 y33 y34 y35 y36 y37 y38 y39 y40 y41 y42, LeO (estoverslaw26_FaultplanPrivate.j2 k y0 y1 y2 y3 y4 y5 y6 y7 y8 y9 y10 y11 y12 y13 y14 y15 y16 y17 y18 y19 y20 y21 y22 y23 y24 y25 y26 y27 y28 y29 y30 y31 y32 y33 y34 y35 y36 y37 y38 y39 y40 y41 y42) (estoverslaw26_FaultplanPrivate.j2 (k + 1) y0 y1 y2 y3 y4 y5 y6 y7 y8 y9 y10 y11 y12 y13 y14 y15 y16 y17 y18 y19 y20 y21 y22 y23 y24 y25 y26 y27 y28 y29 y30 y31 y32 y33 y34 y35 y36 y37 y38 y39 y40 y41 y42)) ∧ (∀ y0 y1 y2 y3 y4 y5 y6 y7 y8 y9 y10 y11 y12 y13 y14 y15 y16 y17 y18 y19 y20, LeO (estoverslaw26_FaultplanPrivate.j3 k y0 y1 y2 y3 y4 y5 y6 y7 y8 y9 y10 y11 y12 y13 y14 y15 y16 y17 y18 y19 y20) (estoverslaw26_FaultplanPrivate.j3 (k + 1) y0 y1 y2 y3 y4 y5 y6 y7 y8 y9 y10 y11 y12 y13 y14 y15 y16 y17 y18 y19 y20))
  | 0 => ⟨fun _ _ _ _ _ _ _ _ _ _ _ _ _ _ _ _ _ _ r h => by simp [estoverslaw26_FaultplanPrivate.j0] at h, fun _ _ _ _ _ _ _ _ _ _ _ _ _ _ _ _ _ _ _ r h => by simp [estoverslaw26_FaultplanPrivate.l0] at h, fun _ _ _ _ _ _ _ _ _ _ _ _ _ _ _ _ _ _ _ _ _ _ _ _ _ _ _ _ _ _ _ _ _ _ _ _ _ _ _ _ _ _ _ r h => by simp [estoverslaw26_FaultplanPrivate.j2] at h, fun _ _ _ _ _ _ _ _ _ _ _ _ _ _ _ _ _ _ _ _ _ r h => by simp [estoverslaw26_FaultplanPrivate.j3] at h⟩
  | k + 1 => by
    obtain ⟨ih0, ih1, ih2, ih3⟩ := estoverslaw26_FaultplanPrivate.mono_l k
    refine ⟨?_, ?_, ?_, ?_⟩
    · intro y0 y1 y2 y3 y4 y5 y6 y7 y8 y9 y10 y11 y12 y13 y14 y15 y16 y17
      unfold estoverslaw26_FaultplanPrivate.j0
      repeat' first
      | (with_reducible exact ih0 _ _ _ _ _ _ _ _ _ _ _ _ _ _ _ _ _ _)
      | (with_reducible exact ih1 _ _ _ _ _ _ _ _ _ _ _ _ _ _ _ _ _ _ _)
      | (with_reducible exact ih2 _ _ _ _ _ _ _ _ _ _ _ _ _ _ _ _ _ _ _ _ _ _ _ _ _ _ _ _ _ _ _ _ _ _ _ _ _ _ _ _ _ _ _)
      | (with_reducible exact ih3 _ _ _ _ _ _ _ _ _ _ _ _ _ _ _ _ _ _ _ _ _)
      | (with_reducible exact estoverslaw26_awake.mono _)
      | (with_reducible exact estoversref26_Check.mono _ _ _ _ _ _ _ _ _ _ _ _ _ _ _ _ _ _)
      | (with_reducible exact faultplan_After.mono _ _ _ _ _ _ _ _ _ _ _ _ _ _ _ _ _ _)
      | (with_reducible exact faultplan_Plan.mono _ _ _ _ _ _ _ _ _ _ _ _ _ _ _ _ _ _)
      | (with_reducible exact LeO.refl _)
      | (with_reducible exact LeO.none _)
      | (with_reducible refine LeO.ite ?_ ?_)
      | (with_reducible refine LeO.bind ?_ (fun _ => ?_))
      | exact ih0 _ _ _ _ _ _ _ _ _ _ _ _ _ _ _ _ _ _
      | exact ih1 _ _ _ _ _ _ _ _ _ _ _ _ _ _ _ _ _ _ _
      | exact ih2 _ _ _ _ _ _ _ _ _ _ _ _ _ _ _ _ _ _ _ _ _ _ _ _ _ _ _ _ _ _ _ _ _ _ _ _ _ _ _ _ _ _ _
      | exact ih3 _ _ _ _ _ _ _ _ _ _ _ _ _ _ _ _ _ _ _ _ _
      | exact estoverslaw26_awake.mono _
      | exact estoversref26_Check.mono _ _ _ _ _ _ _ _ _ _ _ _ _ _ _ _ _ _
      | exact faultplan_After.mono _ _ _ _ _ _ _ _ _ _ _ _ _ _ _ _ _ _
      | exact faultplan_Plan.mono _ _ _ _ _ _ _ _ _ _ _ _ _ _ _ _ _ _
      | exact LeO.none _
      | refine LeO.ite ?_ ?_
      | refine LeO.bind ?_ (fun _ => ?_)
    · intro y0 y1 y2 y3 y4 y5 y6 y7 y8 y9 y10 y11 y12 y13 y14 y15 y16 y17 y18
      unfold estoverslaw26_FaultplanPrivate.l0
      repeat' first
      | (with_reducible exact ih0 _ _ _ _ _ _ _ _ _ _ _ _ _ _ _ _ _ _)
      | (with_reducible exact ih1 _ _ _ _ _ _ _ _ _ _ _ _ _ _ _ _ _ _ _)
      | (with_reducible exact ih2 _ _ _ _ _ _ _ _ _ _ _ _ _ _ _ _ _ _ _ _ _ _ _ _ _ _ _ _ _ _ _ _ _ _ _ _ _ _ _ _ _ _ _)
      | (with_reducible exact ih3 _ _ _ _ _ _ _ _ _ _ _ _ _ _ _ _ _ _ _ _ _)
      | (with_reducible exact estoverslaw26_awake.mono _)
      | (with_reducible exact estoversref26_Check.mono _ _ _ _ _ _ _ _ _ _ _ _ _ _ _ _ _ _)
      | (with_reducible exact faultplan_After.mono _ _ _ _ _ _ _ _ _ _ _ _ _ _ _ _ _ _)
      | (with_reducible exact faultplan_Plan.mono _ _ _ _ _ _ _ _ _ _ _ _ _ _ _ _ _ _)
      | (with_reducible exact LeO.refl _)
      | (with_reducible exact LeO.none _)
      | (with_reducible refine LeO.ite ?_ ?_)
      | (with_reducible refine LeO.bind ?_ (fun _ => ?_))
      | exact ih0 _ _ _ _ _ _ _ _ _ _ _ _ _ _ _ _ _ _
      | exact ih1 _ _ _ _ _ _ _ _ _ _ _ _ _ _ _ _ _ _ _
      | exact ih2 _ _ _ _ _ _ _ _ _ _ _ _ _ _ _ _ _ _ _ _ _ _ _ _ _ _ _ _ _ _ _ _ _ _ _ _ _ _ _ _ _ _ _
      | exact ih3 _ _ _ _ _ _ _ _ _ _ _ _ _ _ _ _ _ _ _ _ _
      | exact estoverslaw26_awake.mono _
      | exact estoversref26_Check.mono _ _ _ _ _ _ _ _ _ _ _ _ _ _ _ _ _ _
      | exact faultplan_After.mono _ _ _ _ _ _ _ _ _ _ _ _ _ _ _ _ _ _
      | exact faultplan_Plan.mono _ _ _ _ _ _ _ _ _ _ _ _ _ _ _ _ _ _
      | exact LeO.none _
      | refine LeO.ite ?_ ?_
      | refine LeO.bind ?_ (fun _ => ?_)
    · intro y0 y1 y2 y3 y4 y5 y6 y7 y8 y9 y10 y11 y12 y13 y14 y15 y16 y17 y18 y19 y20 y21 y22 y23 y24 y25 y26 y27 y28 y29 y30 y31 y32 y33 y34 y35 y36 y37 y38 y39 y40 y41 y42
      unfold estoverslaw26_FaultplanPrivate.j2
      repeat' first
      | (with_reducible exact ih0 _ _ _ _ _ _ _ _ _ _ _ _ _ _ _ _ _ _)
      | (with_reducible exact ih1 _ _ _ _ _ _ _ _ _ _ _ _ _ _ _ _ _ _ _)
      | (with_reducible exact ih2 _ _ _ _ _ _ _ _ _ _ _ _ _ _ _ _ _ _ _ _ _ _ _ _ _ _ _ _ _ _ _ _ _ _ _ _ _ _ _ _ _ _ _)
      | (with_reducible exact ih3 _ _ _ _ _ _ _ _ _ _ _ _ _ _ _ _ _ _ _ _ _)
      | (with_reducible exact estoverslaw26_awake.mono _)
      | (with_reducible exact estoversref26_Check.mono _ _ _ _ _ _ _ _ _ _ _ _ _ _ _ _ _ _)
      | (with_reducible exact faultplan_After.mono _ _ _ _ _ _ _ _ _ _ _ _ _ _ _ _ _ _)
      | (with_reducible exact faultplan_Plan.mono _ _ _ _ _ _ _ _ _ _ _ _ _ _ _ _ _ _)
      | (with_reducible exact LeO.refl _)
      | (with_reducible exact LeO.none _)
      | (with_reducible refine LeO.ite ?_ ?_)
      | (with_reducible refine LeO.bind ?_ (fun _ => ?_))
      | exact ih0 _ _ _ _ _ _ _ _ _ _ _ _ _ _ _ _ _ _
      | exact ih1 _ _ _ _ _ _ _ _ _ _ _ _ _ _ _ _ _ _ _
      | exact ih2 _ _ _ _ _ _ _ _ _ _ _ _ _ _ _ _ _ _ _ _ _ _ _ _ _ _ _ _ _ _ _ _ _ _ _ _ _ _ _ _ _ _ _
      | exact ih3 _ _ _ _ _ _ _ _ _ _ _ _ _ _ _ _ _ _ _ _ _
      | exact estoverslaw26_awake.mono _
      | exact estoversref26_Check.mono _ _ _ _ _ _ _ _ _ _ _ _ _ _ _ _ _ _
      | exact faultplan_After.mono _ _ _ _ _ _ _ _ _ _ _ _ _ _ _ _ _ _
      | exact faultplan_Plan.mono _ _ _ _ _ _ _ _ _ _ _ _ _ _ _ _ _ _
      | exact LeO.none _
      | refine LeO.ite ?_ ?_
      | refine LeO.bind ?_ (fun _ => ?_)
    · intro y0 y1 y2 y3 y4 y5 y6 y7 y8 y9 y10 y11 y12 y13 y14 y15 y16 y17 y18 y19 y20
      unfold estoverslaw26_FaultplanPrivate.j3
      repeat' first
      | (with_reducible exact ih0 _ _ _ _ _ _ _ _ _ _ _ _ _ _ _ _ _ _)
      | (with_reducible exact ih1 _ _ _ _ _ _ _ _ _ _ _ _ _ _ _ _ _ _ _)
      | (with_reducible exact ih2 _ _ _ _ _ _ _ _ _ _ _ _ _ _ _ _ _ _ _ _ _ _ _ _ _ _ _ _ _ _ _ _ _ _ _ _ _ _ _ _ _ _ _)
      | (with_reducible exact ih3 _ _ _ _ _ _ _ _ _ _ _ _ _ _ _ _ _ _ _ _ _)
      | (with_reducible exact estoverslaw26_awake.mono _)
      | (with_reducible exact estoversref26_Check.mono _ _ _ _ _ _ _ _ _ _ _ _ _ _ _ _ _ _)
      | (with_reducible exact faultplan_After.mono _ _ _ _ _ _ _ _ _ _ _ _ _ _ _ _ _ _)
      | (with_reducible exact faultplan_Plan.mono _ _ _ _ _ _ _ _ _ _ _ _ _ _ _ _ _ _)
      | (with_reducible exact LeO.refl _)
      | (with_reducible exact LeO.none _)
      | (with_reducible refine LeO.ite ?_ ?_)
      | (with_reducible refine LeO.bind ?_ (fun _ => ?_))
      | exact ih0 _ _ _ _ _ _ _ _ _ _ _ _ _ _ _ _ _ _
      | exact ih1 _ _ _ _ _ _ _ _ _ _ _ _ _ _ _ _ _ _ _
      | exact ih2 _ _ _ _ _ _ _ _ _ _ _ _ _ _ _ _ _ _ _ _ _ _ _ _ _ _ _ _ _ _ _ _ _ _ _ _ _ _ _ _ _ _ _
      | exact ih3 _ _ _ _ _ _ _ _ _ _ _ _ _ _ _ _ _ _ _ _ _
      | exact estoverslaw26_awake.mono _
      | exact estoversref26_Check.mono _ _ _ _ _ _ _ _ _ _ _ _ _ _ _ _ _ _
      | exact faultplan_After.mono _ _ _ _ _ _ _ _ _ _ _ _ _ _ _ _ _ _
      | exact faultplan_Plan.mono _ _ _ _ _ _ _ _ _ _ _ _ _ _ _ _ _ _
      | exact LeO.none _
      | refine LeO.ite ?_ ?_
      | refine LeO.bind ?_ (fun _ => ?_)
theorem estoverslaw26_FaultplanPrivate.mono : ∀ a0 a1 a2 a3 a4 a5 a6 a7 a8 a9 a10 a11 a12 a13 a14 a15 a16 k, LeO (estoverslaw26_FaultplanPrivate.f k a0 a1 a2 a3 a4 a5 a6 a7 a8 a9 a10 a11 a12 a13 a14 a15 a16) (estoverslaw26_FaultplanPrivate.f (k + 1) a0 a1 a2 a3 a4 a5 a6 a7 a8 a9 a10 a11 a12 a13 a14 a15 a16) := by
  intro a0 a1 a2 a3 a4 a5 a6 a7 a8 a9 a10 a11 a12 a13 a14 a15 a16 k
  obtain ⟨ih0, ih1, ih2, ih3⟩ := estoverslaw26_FaultplanPrivate.mono_l k
  unfold estoverslaw26_FaultplanPrivate.f
  repeat' first
      | (with_reducible exact ih0 _ _ _ _ _ _ _ _ _ _ _ _ _ _ _ _ _ _)
      | (with_reducible exact ih1 _ _ _ _ _ _ _ _ _ _ _ _ _ _ _ _ _ _ _)
      | (with_reducible exact ih2 _ _ _ _ _ _ _ _ _ _ _ _ _ _ _ _ _ _ _ _ _ _ _ _ _ _ _ _ _ _ _ _ _ _ _ _ _ _ _ _ _ _ _)
      | (with_reducible exact ih3 _ _ _ _ _ _ _ _ _ _ _ _ _ _ _ _ _ _ _ _ _)
      | (with_reducible exact estoverslaw26_awake.mono _)
      | (with_reducible exact estoversref26_Check.mono _ _ _ _ _ _ _ _ _ _ _ _ _ _ _ _ _ _)
      | (with_reducible exact faultplan_After.mono _ _ _ _ _ _ _ _ _ _ _ _ _ _ _ _ _ _)
      | (with_reducible exact faultplan_Plan.mono _ _ _ _ _ _ _ _ _ _ _ _ _ _ _ _ _ _)
      | (with_reducible exact LeO.refl _)
      | (with_reducible exact LeO.none _)
      | (with_reducible refine LeO.ite ?_ ?_)
      | (with_reducible refine LeO.bind ?_ (fun _ => ?_))
      | exact ih0 _ _ _ _ _ _ _ _ _ _ _ _ _ _ _ _ _ _
      | exact ih1 _ _ _ _ _ _ _ _ _ _ _ _ _ _ _ _ _ _ _
      | exact ih2 _ _ _ _ _ _ _ _ _ _ _ _ _ _ _ _ _ _ _ _ _ _ _ _ _ _ _ _ _ _ _ _ _ _ _ _ _ _ _ _ _ _ _
      | exact ih3 _ _ _ _ _ _ _ _ _ _ _ _ _ _ _ _ _ _ _ _ _
      | exact estoverslaw26_awake.mono _
      | exact estoversref26_Check.mono _ _ _ _ _ _ _ _ _ _ _ _ _ _ _ _ _ _
      | exact faultplan_After.mono _ _ _ _ _ _ _ _ _ _ _ _ _ _ _ _ _ _
      | exact faultplan_Plan.mono _ _ _ _ _ _ _ _ _ _ _ _ _ _ _ _ _ _
      | exact LeO.none _
      | refine LeO.ite ?_ ?_
      | refine LeO.bind ?_ (fun _ => ?_)
set_option maxHeartbeats 8000000 in
set_option maxRecDepth 100000 in
theorem estoverslaw26_FaultplanPrivate.calls (k : Nat) (a0_0 : Bool) (a0_1 : Bool) (a0_2 : Int) (a0_3 : Bool) (a0_4 : Bool) (a0_5 : Bool) (a0_6 : Bool) (a0_7 : Int) (a0_8 : Bool) (a0_9 : Bool) (a0_10 : Bool) (a0_11 : Bool) (a0_12 : Bool) (a0_13 : Bool) (a0_14 : Bool) (a0_15 : Bool) (a0_16 : Int) (r : Bool) (w : World) (h : estoverslaw26_FaultplanPrivate.f k a0_0 a0_1 a0_2 a0_3 a0_4 a0_5 a0_6 a0_7 a0_8 a0_9 a0_10 a0_11 a0_12 a0_13 a0_14 a0_15 a0_16 = some r) :
    Calls Try.prog 9 #[.agg #[.bool a0_0, .bool a0_1, .int .i64 a0_2, .bool a0_3, .bool a0_4, .bool a0_5, .bool a0_6, .int .i64 a0_7, .bool a0_8, .bool a0_9, .bool a0_10, .bool a0_11, .bool a0_12, .bool a0_13, .bool a0_14, .bool a0_15, .int .i64 a0_16]] w fun e w' => e = .returned (.bool r) ∧ Below w.heap.size w w' := by
  have hu23 := Try.underlying23
  have hu28 := Try.underlying28
  have HB := Aside0.mk (Below.refl w.heap.size w)
  have H : (if a0_1 = true then ((estoversref26_Check.f k a0_0 a0_1 a0_2 a0_3 a0_4 a0_5 a0_6 a0_7 a0_8 a0_9 a0_10 a0_11 a0_12 a0_13 a0_14 a0_15 a0_16).bind fun t350 => (estoverslaw26_FaultplanPrivate.j0 k (t350 != 0) a0_0 a0_1 a0_2 a0_3 a0_4 a0_5 a0_6 a0_7 a0_8 a0_9 a0_10 a0_11 a0_12 a0_13 a0_14 a0_15 a0_16)) else (estoverslaw26_FaultplanPrivate.j0 k true a0_0 a0_1 a0_2 a0_3 a0_4 a0_5 a0_6 a0_7 a0_8 a0_9 a0_10 a0_11 a0_12 a0_13 a0_14 a0_15 a0_16)) = some r := h
  clear h
  have HC2 := Aside0.mk H
  clear H
  go_enter Try.func9, Try.ntmps9
  go_upto_region 1 with (first | ((with_reducible refine gate_dst (N := 1) rfl ?_); refine box_event ?hg (N := 1) ?hd (cs := #[.bool a0_0, .bool a0_1, .int .i64 a0_2, .bool a0_3, .bool a0_4, .bool a0_5, .bool a0_6, .int .i64 a0_7, .bool a0_8, .bool a0_9, .bool a0_10, .bool a0_11, .bool a0_12, .bool a0_13, .bool a0_14, .bool a0_15, .int .i64 a0_16]) (t := 23) ?hr ?_; (case hd => rfl); (case hg => rfl); (case hr => first | (go_simp; done) | (go_simp; rfl)); intro gb349 hg w3 hbox hb; have n0_ := Aside0.mk (below_step (by repeat (first | (with_reducible first | exact HB.out | apply below_alloc | apply pw_below_drewN | apply below_drew1) | exact HB.out)) hb); have n1_ := Aside0.mk (hbox); have n2_ := Aside0.mk ((by rw [hg]; exact (below_size (by repeat (first | (with_reducible first | exact HB.out | apply below_alloc | apply pw_below_drewN | apply below_drew1) | exact HB.out))) : w.heap.size ≤ gb349)); have n3_ := Aside0.mk ((by rw [hg]; exact (below_size (by repeat (first | (with_reducible first | exact HB.out | apply below_alloc | apply pw_below_drewN | apply below_drew1) | exact HB.out))) : w.heap.size ≤ gb349)); clear HB; have HB := n0_; have BK349 := n1_; have GW349 := n2_; have GE349 := n3_; clear n0_ n1_ n2_ n3_; clear hb hbox hg))
  (try simp only [Act.put, List.setIfInBounds_toArray, List.set_cons_zero, List.set_cons_succ])
  go_cut [16] (fun v16 wc => ∃ (kq : Nat) (x16_1 : Bool), v16 = .bool x16_1 ∧ Aside0 (estoverslaw26_FaultplanPrivate.j0 kq x16_1 a0_0 a0_1 a0_2 a0_3 a0_4 a0_5 a0_6 a0_7 a0_8 a0_9 a0_10 a0_11 a0_12 a0_13 a0_14 a0_15 a0_16 = some r) ∧ Aside0 (kq ≤ k) ∧ Aside0 (wc.heap[gb349]? = some (.cells #[.bool a0_0, .bool a0_1, .int .i64 a0_2, .bool a0_3, .bool a0_4, .bool a0_5, .bool a0_6, .int .i64 a0_7, .bool a0_8, .bool a0_9, .bool a0_10, .bool a0_11, .bool a0_12, .bool a0_13, .bool a0_14, .bool a0_15, .int .i64 a0_16] 23 (0, 0))) ∧ Aside0 (Below w.heap.size w wc))
  case first =>
    have H := HC2.out
    clear HC2
    by_cases c4 : a0_1 = true
    · subst c4
      have H1 : ((estoversref26_Check.f k a0_0 true a0_2 a0_3 a0_4 a0_5 a0_6 a0_7 a0_8 a0_9 a0_10 a0_11 a0_12 a0_13 a0_14 a0_15 a0_16).bind fun t350 => (estoverslaw26_FaultplanPrivate.j0 k (t350 != 0) a0_0 true a0_2 a0_3 a0_4 a0_5 a0_6 a0_7 a0_8 a0_9 a0_10 a0_11 a0_12 a0_13 a0_14 a0_15 a0_16)) = some r := by rw [if_pos rfl] at H; exact H
      clear H
      have H := H1
      clear H1
      replace H := Option.bind_eq_some_iff.mp H
      obtain ⟨t350, A50, H⟩ := H
      replace H : (estoverslaw26_FaultplanPrivate.j0 k (t350 != 0) a0_0 true a0_2 a0_3 a0_4 a0_5 a0_6 a0_7 a0_8 a0_9 a0_10 a0_11 a0_12 a0_13 a0_14 a0_15 a0_16) = some r := H
      have A5 := Aside0.mk A50
      clear A50
      have H' := Aside0.mk H
      clear H
      have hcz6_0 : w3.cell? ⟨gb349, 0, none⟩ = some (.bool a0_0) := (blk_cell BK349.out 0).trans rfl
      have hcz6_1 : w3.cell? ⟨gb349, 1, none⟩ = some (.bool true) := (blk_cell BK349.out 1).trans rfl
      have hcz6_2 : w3.cell? ⟨gb349, 2, none⟩ = some (.int .i64 a0_2) := (blk_cell BK349.out 2).trans rfl
      have hcz6_3 : w3.cell? ⟨gb349, 3, none⟩ = some (.bool a0_3) := (blk_cell BK349.out 3).trans rfl
      have hcz6_4 : w3.cell? ⟨gb349, 4, none⟩ = some (.bool a0_4) := (blk_cell BK349.out 4).trans rfl
      have hcz6_5 : w3.cell? ⟨gb349, 5, none⟩ = some (.bool a0_5) := (blk_cell BK349.out 5).trans rfl
      have hcz6_6 : w3.cell? ⟨gb349, 6, none⟩ = some (.bool a0_6) := (blk_cell BK349.out 6).trans rfl
      have hcz6_7 : w3.cell? ⟨gb349, 7, none⟩ = some (.int .i64 a0_7) := (blk_cell BK349.out 7).trans rfl
      have hcz6_8 : w3.cell? ⟨gb349, 8, none⟩ = some (.bool a0_8) := (blk_cell BK349.out 8).trans rfl
      have hcz6_9 : w3.cell? ⟨gb349, 9, none⟩ = some (.bool a0_9) := (blk_cell BK349.out 9).trans rfl
      have hcz6_10 : w3.cell? ⟨gb349, 10, none⟩ = some (.bool a0_10) := (blk_cell BK349.out 10).trans rfl
      have hcz6_11 : w3.cell? ⟨gb349, 11, none⟩ = some (.bool a0_11) := (blk_cell BK349.out 11).trans rfl
      have hcz6_12 : w3.cell? ⟨gb349, 12, none⟩ = some (.bool a0_12) := (blk_cell BK349.out 12).trans rfl
      have hcz6_13 : w3.cell? ⟨gb349, 13, none⟩ = some (.bool a0_13) := (blk_cell BK349.out 13).trans rfl
      have hcz6_14 : w3.cell? ⟨gb349, 14, none⟩ = some (.bool a0_14) := (blk_cell BK349.out 14).trans rfl
      have hcz6_15 : w3.cell? ⟨gb349, 15, none⟩ = some (.bool a0_15) := (blk_cell BK349.out 15).trans rfl
      have hcz6_16 : w3.cell? ⟨gb349, 16, none⟩ = some (.int .i64 a0_16) := (blk_cell BK349.out 16).trans rfl
      have hfz6_0 := blk_frozen BK349.out 0
      have hfz6_1 := blk_frozen BK349.out 1
      have hfz6_2 := blk_frozen BK349.out 2
      have hfz6_3 := blk_frozen BK349.out 3
      have hfz6_4 := blk_frozen BK349.out 4
      have hfz6_5 := blk_frozen BK349.out 5
      have hfz6_6 := blk_frozen BK349.out 6
      have hfz6_7 := blk_frozen BK349.out 7
      have hfz6_8 := blk_frozen BK349.out 8
      have hfz6_9 := blk_frozen BK349.out 9
      have hfz6_10 := blk_frozen BK349.out 10
      have hfz6_11 := blk_frozen BK349.out 11
      have hfz6_12 := blk_frozen BK349.out 12
      have hfz6_13 := blk_frozen BK349.out 13
      have hfz6_14 := blk_frozen BK349.out 14
      have hfz6_15 := blk_frozen BK349.out 15
      have hfz6_16 := blk_frozen BK349.out 16
      go_wp2_with (first | (go_at_call 11; (with_reducible refine (estoversref26_Check.calls k a0_0 true a0_2 a0_3 a0_4 a0_5 a0_6 a0_7 a0_8 a0_9 a0_10 a0_11 a0_12 a0_13 a0_14 a0_15 a0_16 t350 _ A5.out).mono ?_); rintro e w7 ⟨rfl, hb⟩; have n0_ := Aside0.mk (blk_below (g := gb349) (o := .cells #[.bool a0_0, .bool true, .int .i64 a0_2, .bool a0_3, .bool a0_4, .bool a0_5, .bool a0_6, .int .i64 a0_7, .bool a0_8, .bool a0_9, .bool a0_10, .bool a0_11, .bool a0_12, .bool a0_13, .bool a0_14, .bool a0_15, .int .i64 a0_16] 23 (0, 0)) (by (with_reducible repeat (first | refine blk_drewN ?_ _ | refine blk_drew ?_ | refine blk_alloc ?_ _)); exact BK349.out) hb); have n1_ := Aside0.mk (below_step (by repeat (first | (with_reducible first | exact HB.out | apply below_alloc | apply pw_below_drewN | apply below_drew1 | refine below_set ?_ GE349.out) | exact HB.out)) hb); clear BK349; clear HB; have BK349 := n0_; have HB := n1_; clear n0_ n1_; (try clear hb); (try clear hb2); (try clear hk); (try clear hi)))
      go_meet
      case rel => exact ⟨_, ((t350 != 0)), (by first | rfl | (simp; done) | (simp [*]; done)), H', ⟨by first | omega | exact Nat.le_refl _⟩, ⟨by (with_reducible repeat (first | refine blk_drewN ?_ _ | refine blk_drew ?_ | refine blk_alloc ?_ _)); exact BK349.out⟩, ⟨by repeat (first | (with_reducible first | exact HB.out | apply below_alloc | apply pw_below_drewN | apply below_drew1 | refine below_set ?_ GE349.out) | exact HB.out)⟩⟩
    · replace c4 := Bool.eq_false_iff.mpr c4
      subst c4
      have H1 : (estoverslaw26_FaultplanPrivate.j0 k true a0_0 false a0_2 a0_3 a0_4 a0_5 a0_6 a0_7 a0_8 a0_9 a0_10 a0_11 a0_12 a0_13 a0_14 a0_15 a0_16) = some r := by rw [if_neg (show ¬ (false = true) by decide)] at H; exact H
      clear H
      have H := H1
      clear H1
      have H' := Aside0.mk H
      clear H
      have hcz8_0 : w3.cell? ⟨gb349, 0, none⟩ = some (.bool a0_0) := (blk_cell BK349.out 0).trans rfl
      have hcz8_1 : w3.cell? ⟨gb349, 1, none⟩ = some (.bool false) := (blk_cell BK349.out 1).trans rfl
      have hcz8_2 : w3.cell? ⟨gb349, 2, none⟩ = some (.int .i64 a0_2) := (blk_cell BK349.out 2).trans rfl
      have hcz8_3 : w3.cell? ⟨gb349, 3, none⟩ = some (.bool a0_3) := (blk_cell BK349.out 3).trans rfl
      have hcz8_4 : w3.cell? ⟨gb349, 4, none⟩ = some (.bool a0_4) := (blk_cell BK349.out 4).trans rfl
      have hcz8_5 : w3.cell? ⟨gb349, 5, none⟩ = some (.bool a0_5) := (blk_cell BK349.out 5).trans rfl
      have hcz8_6 : w3.cell? ⟨gb349, 6, none⟩ = some (.bool a0_6) := (blk_cell BK349.out 6).trans rfl
      have hcz8_7 : w3.cell? ⟨gb349, 7, none⟩ = some (.int .i64 a0_7) := (blk_cell BK349.out 7).trans rfl
      have hcz8_8 : w3.cell? ⟨gb349, 8, none⟩ = some (.bool a0_8) := (blk_cell BK349.out 8).trans rfl
      have hcz8_9 : w3.cell? ⟨gb349, 9, none⟩ = some (.bool a0_9) := (blk_cell BK349.out 9).trans rfl
      have hcz8_10 : w3.cell? ⟨gb349, 10, none⟩ = some (.bool a0_10) := (blk_cell BK349.out 10).trans rfl
      have hcz8_11 : w3.cell? ⟨gb349, 11, none⟩ = some (.bool a0_11) := (blk_cell BK349.out 11).trans rfl
      have hcz8_12 : w3.cell? ⟨gb349, 12, none⟩ = some (.bool a0_12) := (blk_cell BK349.out 12).trans rfl
      have hcz8_13 : w3.cell? ⟨gb349, 13, none⟩ = some (.bool a0_13) := (blk_cell BK349.out 13).trans rfl
      have hcz8_14 : w3.cell? ⟨gb349, 14, none⟩ = some (.bool a0_14) := (blk_cell BK349.out 14).trans rfl
      have hcz8_15 : w3.cell? ⟨gb349, 15, none⟩ = some (.bool a0_15) := (blk_cell BK349.out 15).trans rfl
      have hcz8_16 : w3.cell? ⟨gb349, 16, none⟩ = some (.int .i64 a0_16) := (blk_cell BK349.out 16).trans rfl
      have hfz8_0 := blk_frozen BK349.out 0
      have hfz8_1 := blk_frozen BK349.out 1
      have hfz8_2 := blk_frozen BK349.out 2
      have hfz8_3 := blk_frozen BK349.out 3
      have hfz8_4 := blk_frozen BK349.out 4
      have hfz8_5 := blk_frozen BK349.out 5
      have hfz8_6 := blk_frozen BK349.out 6
      have hfz8_7 := blk_frozen BK349.out 7
      have hfz8_8 := blk_frozen BK349.out 8
      have hfz8_9 := blk_frozen BK349.out 9
      have hfz8_10 := blk_frozen BK349.out 10
      have hfz8_11 := blk_frozen BK349.out 11
      have hfz8_12 := blk_frozen BK349.out 12
      have hfz8_13 := blk_frozen BK349.out 13
      have hfz8_14 := blk_frozen BK349.out 14
      have hfz8_15 := blk_frozen BK349.out 15
      have hfz8_16 := blk_frozen BK349.out 16
      go_wp2
      go_meet
      case rel => exact ⟨_, (true), (by first | rfl | (simp; done) | (simp [*]; done)), H', ⟨by first | omega | exact Nat.le_refl _⟩, ⟨by (with_reducible repeat (first | refine blk_drewN ?_ _ | refine blk_drew ?_ | refine blk_alloc ?_ _)); exact BK349.out⟩, ⟨by repeat (first | (with_reducible first | exact HB.out | apply below_alloc | apply pw_below_drewN | apply below_drew1 | refine below_set ?_ GE349.out) | exact HB.out)⟩⟩
  case rest =>
    clear HC2
    try clear p2
    try clear c4
    try clear hcz6_0
    try clear hcz6_1
    try clear hcz6_10
    try clear hcz6_11
    try clear hcz6_12
    try clear hcz6_13
    try clear hcz6_14
    try clear hcz6_15
    try clear hcz6_16
    try clear hcz6_2
    try clear hcz6_3
    try clear hcz6_4
    try clear hcz6_5
    try clear hcz6_6
    try clear hcz6_7
    try clear hcz6_8
    try clear hcz6_9
    try clear hcz8_0
    try clear hcz8_1
    try clear hcz8_10
    try clear hcz8_11
    try clear hcz8_12
    try clear hcz8_13
    try clear hcz8_14
    try clear hcz8_15
    try clear hcz8_16
    try clear hcz8_2
    try clear hcz8_3
    try clear hcz8_4
    try clear hcz8_5
    try clear hcz8_6
    try clear hcz8_7
    try clear hcz8_8
    try clear hcz8_9
    try clear hfz6_0
    try clear hfz6_1
    try clear hfz6_10
    try clear hfz6_11
    try clear hfz6_12
    try clear hfz6_13
    try clear hfz6_14
    try clear hfz6_15
    try clear hfz6_16
    try clear hfz6_2
    try clear hfz6_3
    try clear hfz6_4
    try clear hfz6_5
    try clear hfz6_6
    try clear hfz6_7
    try clear hfz6_8
    try clear hfz6_9
    try clear hfz8_0
    try clear hfz8_1
    try clear hfz8_10
    try clear hfz8_11
    try clear hfz8_12
    try clear hfz8_13
    try clear hfz8_14
    try clear hfz8_15
    try clear hfz8_16
    try clear hfz8_2
    try clear hfz8_3
    try clear hfz8_4
    try clear hfz8_5
    try clear hfz8_6
    try clear hfz8_7
    try clear hfz8_8
    try clear hfz8_9
    obtain ⟨kq, x16_1, rfl, HA, HJ1, BK349, HB⟩ := hcut
    cases kq with
    | zero => exact absurd HA.out (by simp [estoverslaw26_FaultplanPrivate.j0])
    | succ kj1 =>
      have H := HA.out
      clear HA
      simp only [estoverslaw26_FaultplanPrivate.j0] at H
      by_cases c9 : x16_1 = true
      · subst c9
        have H1 : ((estoverslaw26_awake.f kj1).bind fun t351 => (some t351)) = some r := by rw [if_pos rfl] at H; exact H
        clear H
        have H := H1
        clear H1
        replace H := Option.bind_eq_some_iff.mp H
        obtain ⟨t351, A100, H⟩ := H
        replace H : (some t351) = some r := H
        have A10 := Aside0.mk A100
        clear A100
        obtain rfl := Option.some.inj H
        go_wp2_with (first | ((with_reducible refine gate_callee (f := 12) rfl ?_); refine goesL_ (some 17) rfl rfl Try.func12 (by kernel_rfl) rfl #[] rfl (by (try simp only [List.map_toArray, List.map_cons, List.map_nil]); first | done | rfl | (simp only [List.length_drop, List.length_take]; rfl)) ?_; (with_reducible refine (estoverslaw26_awake.calls kj1  t351 _ A10.out).mono ?_); rintro e w11 ⟨rfl, hb⟩; refine ⟨_, rfl, ?_⟩; have n0_ := Aside0.mk (blk_below (g := gb349) (o := .cells #[.bool a0_0, .bool a0_1, .int .i64 a0_2, .bool a0_3, .bool a0_4, .bool a0_5, .bool a0_6, .int .i64 a0_7, .bool a0_8, .bool a0_9, .bool a0_10, .bool a0_11, .bool a0_12, .bool a0_13, .bool a0_14, .bool a0_15, .int .i64 a0_16] 23 (0, 0)) (by (with_reducible repeat (first | refine blk_drewN ?_ _ | refine blk_drew ?_ | refine blk_alloc ?_ _)); exact BK349.out) hb); have n1_ := Aside0.mk (below_step (by repeat (first | (with_reducible first | exact HB.out | apply below_alloc | apply pw_below_drewN | apply below_drew1 | refine below_set ?_ GE349.out) | exact HB.out)) hb); clear BK349; clear HB; have BK349 := n0_; have HB := n1_; clear n0_ n1_; (try clear hb); (try clear hb2); (try clear hk); (try clear hi)))
        go_ret
        exact ⟨by first | rfl | (simp [errW_none, errW_some] <;> rfl) | (simp [*, errW_none, errW_some] <;> rfl), by repeat (first | (with_reducible first | exact HB.out | apply below_alloc | apply pw_below_drewN | apply below_drew1 | refine below_set ?_ GE349.out) | exact HB.out)⟩
      · replace c9 := Bool.eq_false_iff.mpr c9
        subst c9
        have H1 : (estoverslaw26_FaultplanPrivate.l0 kj1 a0_14 0 a0_0 a0_1 a0_2 a0_3 a0_4 a0_5 a0_6 a0_7 a0_8 a0_9 a0_10 a0_11 a0_12 a0_13 a0_14 a0_15 a0_16) = some r := by rw [if_neg (show ¬ (false = true) by decide)] at H; exact H
        clear H
        have H := H1
        clear H1
        have H' := Aside0.mk H
        clear H
        have hcz12_0 : wc.cell? ⟨gb349, 0, none⟩ = some (.bool a0_0) := (blk_cell BK349.out 0).trans rfl
        have hcz12_1 : wc.cell? ⟨gb349, 1, none⟩ = some (.bool a0_1) := (blk_cell BK349.out 1).trans rfl
        have hcz12_2 : wc.cell? ⟨gb349, 2, none⟩ = some (.int .i64 a0_2) := (blk_cell BK349.out 2).trans rfl
        have hcz12_3 : wc.cell? ⟨gb349, 3, none⟩ = some (.bool a0_3) := (blk_cell BK349.out 3).trans rfl
        have hcz12_4 : wc.cell? ⟨gb349, 4, none⟩ = some (.bool a0_4) := (blk_cell BK349.out 4).trans rfl
        have hcz12_5 : wc.cell? ⟨gb349, 5, none⟩ = some (.bool a0_5) := (blk_cell BK349.out 5).trans rfl
        have hcz12_6 : wc.cell? ⟨gb349, 6, none⟩ = some (.bool a0_6) := (blk_cell BK349.out 6).trans rfl
        have hcz12_7 : wc.cell? ⟨gb349, 7, none⟩ = some (.int .i64 a0_7) := (blk_cell BK349.out 7).trans rfl
        have hcz12_8 : wc.cell? ⟨gb349, 8, none⟩ = some (.bool a0_8) := (blk_cell BK349.out 8).trans rfl
        have hcz12_9 : wc.cell? ⟨gb349, 9, none⟩ = some (.bool a0_9) := (blk_cell BK349.out 9).trans rfl
        have hcz12_10 : wc.cell? ⟨gb349, 10, none⟩ = some (.bool a0_10) := (blk_cell BK349.out 10).trans rfl
        have hcz12_11 : wc.cell? ⟨gb349, 11, none⟩ = some (.bool a0_11) := (blk_cell BK349.out 11).trans rfl
        have hcz12_12 : wc.cell? ⟨gb349, 12, none⟩ = some (.bool a0_12) := (blk_cell BK349.out 12).trans rfl
        have hcz12_13 : wc.cell? ⟨gb349, 13, none⟩ = some (.bool a0_13) := (blk_cell BK349.out 13).trans rfl
        have hcz12_14 : wc.cell? ⟨gb349, 14, none⟩ = some (.bool a0_14) := (blk_cell BK349.out 14).trans rfl
        have hcz12_15 : wc.cell? ⟨gb349, 15, none⟩ = some (.bool a0_15) := (blk_cell BK349.out 15).trans rfl
        have hcz12_16 : wc.cell? ⟨gb349, 16, none⟩ = some (.int .i64 a0_16) := (blk_cell BK349.out 16).trans rfl
        have hfz12_0 := blk_frozen BK349.out 0
        have hfz12_1 := blk_frozen BK349.out 1
        have hfz12_2 := blk_frozen BK349.out 2
        have hfz12_3 := blk_frozen BK349.out 3
        have hfz12_4 := blk_frozen BK349.out 4
        have hfz12_5 := blk_frozen BK349.out 5
        have hfz12_6 := blk_frozen BK349.out 6
        have hfz12_7 := blk_frozen BK349.out 7
        have hfz12_8 := blk_frozen BK349.out 8
        have hfz12_9 := blk_frozen BK349.out 9
        have hfz12_10 := blk_frozen BK349.out 10
        have hfz12_11 := blk_frozen BK349.out 11
        have hfz12_12 := blk_frozen BK349.out 12
        have hfz12_13 := blk_frozen BK349.out 13
        have hfz12_14 := blk_frozen BK349.out 14
        have hfz12_15 := blk_frozen BK349.out 15
        have hfz12_16 := blk_frozen BK349.out 16
        go_wp2
        go_loopg [20] kj1 (fun kq v20 w' => ∃ (x20_2 : Int) (x350000_2 : Bool) (x350001_2 : Bool) (x350002_2 : Int) (x350003_2 : Bool) (x350004_2 : Bool) (x350005_2 : Bool) (x350006_2 : Bool) (x350007_2 : Int) (x350008_2 : Bool) (x350009_2 : Bool) (x350010_2 : Bool) (x350011_2 : Bool) (x350012_2 : Bool) (x350013_2 : Bool) (x350014_2 : Bool) (x350015_2 : Bool) (x350016_2 : Int), v20 = .int .i64 x20_2 ∧ Aside0 (estoverslaw26_FaultplanPrivate.l0 kq a0_14 x20_2 x350000_2 x350001_2 x350002_2 x350003_2 x350004_2 x350005_2 x350006_2 x350007_2 x350008_2 x350009_2 x350010_2 x350011_2 x350012_2 x350013_2 x350014_2 x350015_2 x350016_2 = some r) ∧ Aside0 (kq ≤ kj1) ∧ Aside0 (w'.heap[gb349]? = some (.cells #[.bool x350000_2, .bool x350001_2, .int .i64 x350002_2, .bool x350003_2, .bool x350004_2, .bool x350005_2, .bool x350006_2, .int .i64 x350007_2, .bool x350008_2, .bool x350009_2, .bool x350010_2, .bool x350011_2, .bool x350012_2, .bool x350013_2, .bool x350014_2, .bool x350015_2, .int .i64 x350016_2] 23 (0, 0))) ∧ Aside0 (Below w.heap.size w w'))
        case atStart => exact ⟨(0), (a0_0), (a0_1), (a0_2), (a0_3), (a0_4), (a0_5), (a0_6), (a0_7), (a0_8), (a0_9), (a0_10), (a0_11), (a0_12), (a0_13), (a0_14), (a0_15), (a0_16), (by first | rfl | (simp; done) | (simp [*]; done)), H', ⟨Nat.le_refl _⟩, ⟨by (with_reducible repeat (first | refine blk_drewN ?_ _ | refine blk_drew ?_ | refine blk_alloc ?_ _)); exact BK349.out⟩, ⟨by repeat (first | (with_reducible first | exact HB.out | apply below_alloc | apply pw_below_drewN | apply below_drew1 | refine below_set ?_ GE349.out) | exact HB.out)⟩⟩
        case round =>
          clear H'
          try clear c1
          try clear p2
          try clear c4
          try clear c9
          try clear c12
          try clear hcz12_0
          try clear hcz12_1
          try clear hcz12_10
          try clear hcz12_11
          try clear hcz12_12
          try clear hcz12_13
          try clear hcz12_14
          try clear hcz12_15
          try clear hcz12_16
          try clear hcz12_2
          try clear hcz12_3
          try clear hcz12_4
          try clear hcz12_5
          try clear hcz12_6
          try clear hcz12_7
          try clear hcz12_8
          try clear hcz12_9
          try clear hcz6_0
          try clear hcz6_1
          try clear hcz6_10
          try clear hcz6_11
          try clear hcz6_12
          try clear hcz6_13
          try clear hcz6_14
          try clear hcz6_15
          try clear hcz6_16
          try clear hcz6_2
          try clear hcz6_3
          try clear hcz6_4
          try clear hcz6_5
          try clear hcz6_6
          try clear hcz6_7
          try clear hcz6_8
          try clear hcz6_9
          try clear hcz8_0
          try clear hcz8_1
          try clear hcz8_10
          try clear hcz8_11
          try clear hcz8_12
          try clear hcz8_13
          try clear hcz8_14
          try clear hcz8_15
          try clear hcz8_16
          try clear hcz8_2
          try clear hcz8_3
          try clear hcz8_4
          try clear hcz8_5
          try clear hcz8_6
          try clear hcz8_7
          try clear hcz8_8
          try clear hcz8_9
          try clear hfz12_0
          try clear hfz12_1
          try clear hfz12_10
          try clear hfz12_11
          try clear hfz12_12
          try clear hfz12_13
          try clear hfz12_14
          try clear hfz12_15
          try clear hfz12_16
          try clear hfz12_2
          try clear hfz12_3
          try clear hfz12_4
          try clear hfz12_5
          try clear hfz12_6
          try clear hfz12_7
          try clear hfz12_8
          try clear hfz12_9
          try clear hfz6_0
          try clear hfz6_1
          try clear hfz6_10
          try clear hfz6_11
          try clear hfz6_12
          try clear hfz6_13
          try clear hfz6_14
          try clear hfz6_15
          try clear hfz6_16
          try clear hfz6_2
          try clear hfz6_3
          try clear hfz6_4
          try clear hfz6_5
          try clear hfz6_6
          try clear hfz6_7
          try clear hfz6_8
          try clear hfz6_9
          try clear hfz8_0
          try clear hfz8_1
          try clear hfz8_10
          try clear hfz8_11
          try clear hfz8_12
          try clear hfz8_13
          try clear hfz8_14
          try clear hfz8_15
          try clear hfz8_16
          try clear hfz8_2
          try clear hfz8_3
          try clear hfz8_4
          try clear hfz8_5
          try clear hfz8_6
          try clear hfz8_7
          try clear hfz8_8
          try clear hfz8_9
          try clear p2
          obtain ⟨x20_2, x350000_2, x350001_2, x350002_2, x350003_2, x350004_2, x350005_2, x350006_2, x350007_2, x350008_2, x350009_2, x350010_2, x350011_2, x350012_2, x350013_2, x350014_2, x350015_2, x350016_2, rfl, HA, HK2, BK349, HB⟩ := hrel
          cases gk with
          | zero => exact absurd HA.out (by simp [estoverslaw26_FaultplanPrivate.l0])
          | succ k2 =>
            have H := HA.out
            clear HA
            simp only [estoverslaw26_FaultplanPrivate.l0] at H
            by_cases c13 : x20_2 < 8
            · rw [if_pos c13] at H
              have c13b0 : decide (x20_2 < 8) = true := decide_eq_true c13
              clear c13
              replace H := Option.bind_eq_some_iff.mp H
              obtain ⟨⟨t352, t353, t354, t355, t356, t357⟩, A140, H⟩ := H
              replace H : ((faultplan_After.f k2 x350000_2 x350001_2 x350002_2 x350003_2 x350004_2 x350005_2 x350006_2 x350007_2 x350008_2 x350009_2 x350010_2 x350011_2 x350012_2 x350013_2 x350014_2 x350015_2 x350016_2).bind fun bt359 => (if t357 = 0 then (estoverslaw26_FaultplanPrivate.j2 k2 a0_14 bt359.2.2.2.2.2.2.2.2.2.2.2.2.2.2.2.2.2.1 x20_2 (bt359.2.2.2.2.2.2.2.2.2.2.2.2.2.2.2.2.2.2 != 0) x350000_2 x350001_2 x350002_2 x350003_2 x350004_2 x350005_2 x350006_2 x350007_2 x350008_2 x350009_2 x350010_2 x350011_2 x350012_2 x350013_2 x350014_2 x350015_2 x350016_2 t352 t353 t354 t355 t356 bt359.1 bt359.2.1 bt359.2.2.1 bt359.2.2.2.1 bt359.2.2.2.2.1 bt359.2.2.2.2.2.1 bt359.2.2.2.2.2.2.1 bt359.2.2.2.2.2.2.2.1 bt359.2.2.2.2.2.2.2.2.1 bt359.2.2.2.2.2.2.2.2.2.1 bt359.2.2.2.2.2.2.2.2.2.2.1 bt359.2.2.2.2.2.2.2.2.2.2.2.1 bt359.2.2.2.2.2.2.2.2.2.2.2.2.1 bt359.2.2.2.2.2.2.2.2.2.2.2.2.2.1 bt359.2.2.2.2.2.2.2.2.2.2.2.2.2.2.1 bt359.2.2.2.2.2.2.2.2.2.2.2.2.2.2.2.1 bt359.2.2.2.2.2.2.2.2.2.2.2.2.2.2.2.2.1) else (estoverslaw26_FaultplanPrivate.j2 k2 a0_14 bt359.2.2.2.2.2.2.2.2.2.2.2.2.2.2.2.2.2.1 x20_2 true x350000_2 x350001_2 x350002_2 x350003_2 x350004_2 x350005_2 x350006_2 x350007_2 x350008_2 x350009_2 x350010_2 x350011_2 x350012_2 x350013_2 x350014_2 x350015_2 x350016_2 t352 t353 t354 t355 t356 bt359.1 bt359.2.1 bt359.2.2.1 bt359.2.2.2.1 bt359.2.2.2.2.1 bt359.2.2.2.2.2.1 bt359.2.2.2.2.2.2.1 bt359.2.2.2.2.2.2.2.1 bt359.2.2.2.2.2.2.2.2.1 bt359.2.2.2.2.2.2.2.2.2.1 bt359.2.2.2.2.2.2.2.2.2.2.1 bt359.2.2.2.2.2.2.2.2.2.2.2.1 bt359.2.2.2.2.2.2.2.2.2.2.2.2.1 bt359.2.2.2.2.2.2.2.2.2.2.2.2.2.1 bt359.2.2.2.2.2.2.2.2.2.2.2.2.2.2.1 bt359.2.2.2.2.2.2.2.2.2.2.2.2.2.2.2.1 bt359.2.2.2.2.2.2.2.2.2.2.2.2.2.2.2.2.1))) = some r := H
              have A14 := Aside0.mk A140
              clear A140
              replace H := Option.bind_eq_some_iff.mp H
              obtain ⟨⟨t359, t360, t361, t362, t363, t364, t365, t366, t367, t368, t369, t370, t371, t372, t373, t374, t375, t376, t377⟩, A150, H⟩ := H
              replace H : (if t357 = 0 then (estoverslaw26_FaultplanPrivate.j2 k2 a0_14 t376 x20_2 (t377 != 0) x350000_2 x350001_2 x350002_2 x350003_2 x350004_2 x350005_2 x350006_2 x350007_2 x350008_2 x350009_2 x350010_2 x350011_2 x350012_2 x350013_2 x350014_2 x350015_2 x350016_2 t352 t353 t354 t355 t356 t359 t360 t361 t362 t363 t364 t365 t366 t367 t368 t369 t370 t371 t372 t373 t374 t375) else (estoverslaw26_FaultplanPrivate.j2 k2 a0_14 t376 x20_2 true x350000_2 x350001_2 x350002_2 x350003_2 x350004_2 x350005_2 x350006_2 x350007_2 x350008_2 x350009_2 x350010_2 x350011_2 x350012_2 x350013_2 x350014_2 x350015_2 x350016_2 t352 t353 t354 t355 t356 t359 t360 t361 t362 t363 t364 t365 t366 t367 t368 t369 t370 t371 t372 t373 t374 t375)) = some r := H
              have A15 := Aside0.mk A150
              clear A150
              have HC16 := Aside0.mk H
              clear H
              have hcz17_0 : wr.cell? ⟨gb349, 0, none⟩ = some (.bool x350000_2) := (blk_cell BK349.out 0).trans rfl
              have hcz17_1 : wr.cell? ⟨gb349, 1, none⟩ = some (.bool x350001_2) := (blk_cell BK349.out 1).trans rfl
              have hcz17_2 : wr.cell? ⟨gb349, 2, none⟩ = some (.int .i64 x350002_2) := (blk_cell BK349.out 2).trans rfl
              have hcz17_3 : wr.cell? ⟨gb349, 3, none⟩ = some (.bool x350003_2) := (blk_cell BK349.out 3).trans rfl
              have hcz17_4 : wr.cell? ⟨gb349, 4, none⟩ = some (.bool x350004_2) := (blk_cell BK349.out 4).trans rfl
              have hcz17_5 : wr.cell? ⟨gb349, 5, none⟩ = some (.bool x350005_2) := (blk_cell BK349.out 5).trans rfl
              have hcz17_6 : wr.cell? ⟨gb349, 6, none⟩ = some (.bool x350006_2) := (blk_cell BK349.out 6).trans rfl
              have hcz17_7 : wr.cell? ⟨gb349, 7, none⟩ = some (.int .i64 x350007_2) := (blk_cell BK349.out 7).trans rfl
              have hcz17_8 : wr.cell? ⟨gb349, 8, none⟩ = some (.bool x350008_2) := (blk_cell BK349.out 8).trans rfl
              have hcz17_9 : wr.cell? ⟨gb349, 9, none⟩ = some (.bool x350009_2) := (blk_cell BK349.out 9).trans rfl
              have hcz17_10 : wr.cell? ⟨gb349, 10, none⟩ = some (.bool x350010_2) := (blk_cell BK349.out 10).trans rfl
              have hcz17_11 : wr.cell? ⟨gb349, 11, none⟩ = some (.bool x350011_2) := (blk_cell BK349.out 11).trans rfl
              have hcz17_12 : wr.cell? ⟨gb349, 12, none⟩ = some (.bool x350012_2) := (blk_cell BK349.out 12).trans rfl
              have hcz17_13 : wr.cell? ⟨gb349, 13, none⟩ = some (.bool x350013_2) := (blk_cell BK349.out 13).trans rfl
              have hcz17_14 : wr.cell? ⟨gb349, 14, none⟩ = some (.bool x350014_2) := (blk_cell BK349.out 14).trans rfl
              have hcz17_15 : wr.cell? ⟨gb349, 15, none⟩ = some (.bool x350015_2) := (blk_cell BK349.out 15).trans rfl
              have hcz17_16 : wr.cell? ⟨gb349, 16, none⟩ = some (.int .i64 x350016_2) := (blk_cell BK349.out 16).trans rfl
              have hfz17_0 := blk_frozen BK349.out 0
              have hfz17_1 := blk_frozen BK349.out 1
              have hfz17_2 := blk_frozen BK349.out 2
              have hfz17_3 := blk_frozen BK349.out 3
              have hfz17_4 := blk_frozen BK349.out 4
              have hfz17_5 := blk_frozen BK349.out 5
              have hfz17_6 := blk_frozen BK349.out 6
              have hfz17_7 := blk_frozen BK349.out 7
              have hfz17_8 := blk_frozen BK349.out 8
              have hfz17_9 := blk_frozen BK349.out 9
              have hfz17_10 := blk_frozen BK349.out 10
              have hfz17_11 := blk_frozen BK349.out 11
              have hfz17_12 := blk_frozen BK349.out 12
              have hfz17_13 := blk_frozen BK349.out 13
              have hfz17_14 := blk_frozen BK349.out 14
              have hfz17_15 := blk_frozen BK349.out 15
              have hfz17_16 := blk_frozen BK349.out 16
              go_upto_region 8 with (first | ((with_reducible refine gate_callee (f := 13) rfl ?_); refine goesL_ (some 24) rfl rfl Try.func13 (by kernel_rfl) rfl #[.agg #[.bool x350000_2, .bool x350001_2, .int .i64 x350002_2, .bool x350003_2, .bool x350004_2, .bool x350005_2, .bool x350006_2, .int .i64 x350007_2, .bool x350008_2, .bool x350009_2, .bool x350010_2, .bool x350011_2, .bool x350012_2, .bool x350013_2, .bool x350014_2, .bool x350015_2, .int .i64 x350016_2]] rfl (by (try simp only [List.map_toArray, List.map_cons, List.map_nil]); first | done | rfl | (simp only [List.length_drop, List.length_take]; rfl)) ?_; (with_reducible refine (faultplan_Plan.calls k2 x350000_2 x350001_2 x350002_2 x350003_2 x350004_2 x350005_2 x350006_2 x350007_2 x350008_2 x350009_2 x350010_2 x350011_2 x350012_2 x350013_2 x350014_2 x350015_2 x350016_2 t352 t353 t354 t355 t356 t357 _ A14.out).mono ?_); rintro e w18 ⟨rfl, hb⟩; refine ⟨_, rfl, ?_⟩; have n0_ := Aside0.mk (blk_below (g := gb349) (o := .cells #[.bool x350000_2, .bool x350001_2, .int .i64 x350002_2, .bool x350003_2, .bool x350004_2, .bool x350005_2, .bool x350006_2, .int .i64 x350007_2, .bool x350008_2, .bool x350009_2, .bool x350010_2, .bool x350011_2, .bool x350012_2, .bool x350013_2, .bool x350014_2, .bool x350015_2, .int .i64 x350016_2] 23 (0, 0)) (by (with_reducible repeat (first | refine blk_drewN ?_ _ | refine blk_drew ?_ | refine blk_alloc ?_ _)); exact BK349.out) hb); have n1_ := Aside0.mk (below_step (by repeat (first | (with_reducible first | exact HB.out | apply below_alloc | apply pw_below_drewN | apply below_drew1 | refine below_set ?_ GE349.out) | exact HB.out)) hb); clear BK349; clear HB; have BK349 := n0_; have HB := n1_; clear n0_ n1_; (try clear hb); (try clear hb2); (try clear hk); (try clear hi)) | ((with_reducible refine gate_dst (N := 4) rfl ?_); refine box_event ?hg (N := 4) ?hd (cs := #[.int .i64 0, .int .i64 0, .int .i64 0, .int .i64 0, .int .i64 0]) (t := 28) ?hr ?_; (case hd => rfl); (case hg => rfl); (case hr => first | (go_simp; done) | (go_simp; rfl)); intro gb358 hg w19 hbox hb; have n0_ := Aside0.mk (blk_below (g := gb349) (o := .cells #[.bool x350000_2, .bool x350001_2, .int .i64 x350002_2, .bool x350003_2, .bool x350004_2, .bool x350005_2, .bool x350006_2, .int .i64 x350007_2, .bool x350008_2, .bool x350009_2, .bool x350010_2, .bool x350011_2, .bool x350012_2, .bool x350013_2, .bool x350014_2, .bool x350015_2, .int .i64 x350016_2] 23 (0, 0)) (by (with_reducible repeat (first | refine blk_drewN ?_ _ | refine blk_drew ?_ | refine blk_alloc ?_ _)); exact BK349.out) hb); have n1_ := Aside0.mk (below_step (by repeat (first | (with_reducible first | exact HB.out | apply below_alloc | apply pw_below_drewN | apply below_drew1 | refine below_set ?_ GE349.out) | exact HB.out)) hb); have n2_ := Aside0.mk (hbox); have n3_ := Aside0.mk ((by rw [hg]; exact (below_size (by repeat (first | (with_reducible first | exact HB.out | apply below_alloc | apply pw_below_drewN | apply below_drew1 | refine below_set ?_ GE349.out) | exact HB.out))) : w.heap.size ≤ gb358)); have n4_ := Aside0.mk ((by rw [hg]; exact (below_size (by repeat (first | (with_reducible first | exact HB.out | apply below_alloc | apply pw_below_drewN | apply below_drew1 | refine below_set ?_ GE349.out) | exact HB.out))) : w.heap.size ≤ gb358)); have n5_ := Aside0.mk ((by rw [hg]; exact Nat.ne_of_lt (blk_lt (g := gb349) (o := .cells #[.bool x350000_2, .bool x350001_2, .int .i64 x350002_2, .bool x350003_2, .bool x350004_2, .bool x350005_2, .bool x350006_2, .int .i64 x350007_2, .bool x350008_2, .bool x350009_2, .bool x350010_2, .bool x350011_2, .bool x350012_2, .bool x350013_2, .bool x350014_2, .bool x350015_2, .int .i64 x350016_2] 23 (0, 0)) (by (with_reducible repeat (first | refine blk_drewN ?_ _ | refine blk_drew ?_ | refine blk_alloc ?_ _)); exact BK349.out)) : gb349 ≠ gb358)); have n6_ := Aside0.mk ((by rw [hg]; exact Nat.ne_of_gt (blk_lt (g := gb349) (o := .cells #[.bool x350000_2, .bool x350001_2, .int .i64 x350002_2, .bool x350003_2, .bool x350004_2, .bool x350005_2, .bool x350006_2, .int .i64 x350007_2, .bool x350008_2, .bool x350009_2, .bool x350010_2, .bool x350011_2, .bool x350012_2, .bool x350013_2, .bool x350014_2, .bool x350015_2, .int .i64 x350016_2] 23 (0, 0)) (by (with_reducible repeat (first | refine blk_drewN ?_ _ | refine blk_drew ?_ | refine blk_alloc ?_ _)); exact BK349.out)) : gb358 ≠ gb349)); clear BK349; clear HB; have BK349 := n0_; have HB := n1_; have BK358 := n2_; have GW358 := n3_; have GE358 := n4_; have NB349_358 := n5_; have NB358_349 := n6_; clear n0_ n1_ n2_ n3_ n4_ n5_ n6_; clear hb hbox hg; have hnb20 := NB358_349.out; have hnc20 := NB349_358.out; have hcz21_0 : w19.cell? ⟨gb358, 0, none⟩ = some (.int .i64 0) := (blk_cell BK358.out 0).trans rfl; have hcz21_1 : w19.cell? ⟨gb358, 1, none⟩ = some (.int .i64 0) := (blk_cell BK358.out 1).trans rfl; have hcz21_2 : w19.cell? ⟨gb358, 2, none⟩ = some (.int .i64 0) := (blk_cell BK358.out 2).trans rfl; have hcz21_3 : w19.cell? ⟨gb358, 3, none⟩ = some (.int .i64 0) := (blk_cell BK358.out 3).trans rfl; have hcz21_4 : w19.cell? ⟨gb358, 4, none⟩ = some (.int .i64 0) := (blk_cell BK358.out 4).trans rfl; have hfz21_0 := blk_frozen BK358.out 0; have hfz21_1 := blk_frozen BK358.out 1; have hfz21_2 := blk_frozen BK358.out 2; have hfz21_3 := blk_frozen BK358.out 3; have hfz21_4 := blk_frozen BK358.out 4; have hcz22_0 : w19.cell? ⟨gb349, 0, none⟩ = some (.bool x350000_2) := (blk_cell BK349.out 0).trans rfl; have hcz22_1 : w19.cell? ⟨gb349, 1, none⟩ = some (.bool x350001_2) := (blk_cell BK349.out 1).trans rfl; have hcz22_2 : w19.cell? ⟨gb349, 2, none⟩ = some (.int .i64 x350002_2) := (blk_cell BK349.out 2).trans rfl; have hcz22_3 : w19.cell? ⟨gb349, 3, none⟩ = some (.bool x350003_2) := (blk_cell BK349.out 3).trans rfl; have hcz22_4 : w19.cell? ⟨gb349, 4, none⟩ = some (.bool x350004_2) := (blk_cell BK349.out 4).trans rfl; have hcz22_5 : w19.cell? ⟨gb349, 5, none⟩ = some (.bool x350005_2) := (blk_cell BK349.out 5).trans rfl; have hcz22_6 : w19.cell? ⟨gb349, 6, none⟩ = some (.bool x350006_2) := (blk_cell BK349.out 6).trans rfl; have hcz22_7 : w19.cell? ⟨gb349, 7, none⟩ = some (.int .i64 x350007_2) := (blk_cell BK349.out 7).trans rfl; have hcz22_8 : w19.cell? ⟨gb349, 8, none⟩ = some (.bool x350008_2) := (blk_cell BK349.out 8).trans rfl; have hcz22_9 : w19.cell? ⟨gb349, 9, none⟩ = some (.bool x350009_2) := (blk_cell BK349.out 9).trans rfl; have hcz22_10 : w19.cell? ⟨gb349, 10, none⟩ = some (.bool x350010_2) := (blk_cell BK349.out 10).trans rfl; have hcz22_11 : w19.cell? ⟨gb349, 11, none⟩ = some (.bool x350011_2) := (blk_cell BK349.out 11).trans rfl; have hcz22_12 : w19.cell? ⟨gb349, 12, none⟩ = some (.bool x350012_2) := (blk_cell BK349.out 12).trans rfl; have hcz22_13 : w19.cell? ⟨gb349, 13, none⟩ = some (.bool x350013_2) := (blk_cell BK349.out 13).trans rfl; have hcz22_14 : w19.cell? ⟨gb349, 14, none⟩ = some (.bool x350014_2) := (blk_cell BK349.out 14).trans rfl; have hcz22_15 : w19.cell? ⟨gb349, 15, none⟩ = some (.bool x350015_2) := (blk_cell BK349.out 15).trans rfl; have hcz22_16 : w19.cell? ⟨gb349, 16, none⟩ = some (.int .i64 x350016_2) := (blk_cell BK349.out 16).trans rfl; have hfz22_0 := blk_frozen BK349.out 0; have hfz22_1 := blk_frozen BK349.out 1; have hfz22_2 := blk_frozen BK349.out 2; have hfz22_3 := blk_frozen BK349.out 3; have hfz22_4 := blk_frozen BK349.out 4; have hfz22_5 := blk_frozen BK349.out 5; have hfz22_6 := blk_frozen BK349.out 6; have hfz22_7 := blk_frozen BK349.out 7; have hfz22_8 := blk_frozen BK349.out 8; have hfz22_9 := blk_frozen BK349.out 9; have hfz22_10 := blk_frozen BK349.out 10; have hfz22_11 := blk_frozen BK349.out 11; have hfz22_12 := blk_frozen BK349.out 12; have hfz22_13 := blk_frozen BK349.out 13; have hfz22_14 := blk_frozen BK349.out 14; have hfz22_15 := blk_frozen BK349.out 15; have hfz22_16 := blk_frozen BK349.out 16) | ((with_reducible refine gate_callee (f := 15) rfl ?_); refine goesL_ (some 29) rfl rfl Try.func15 (by kernel_rfl) rfl #[.agg #[.bool x350000_2, .bool x350001_2, .int .i64 x350002_2, .bool x350003_2, .bool x350004_2, .bool x350005_2, .bool x350006_2, .int .i64 x350007_2, .bool x350008_2, .bool x350009_2, .bool x350010_2, .bool x350011_2, .bool x350012_2, .bool x350013_2, .bool x350014_2, .bool x350015_2, .int .i64 x350016_2]] rfl (by (try simp only [List.map_toArray, List.map_cons, List.map_nil]); first | done | rfl | (simp only [List.length_drop, List.length_take]; rfl)) ?_; (with_reducible refine (faultplan_After.calls k2 x350000_2 x350001_2 x350002_2 x350003_2 x350004_2 x350005_2 x350006_2 x350007_2 x350008_2 x350009_2 x350010_2 x350011_2 x350012_2 x350013_2 x350014_2 x350015_2 x350016_2 t359 t360 t361 t362 t363 t364 t365 t366 t367 t368 t369 t370 t371 t372 t373 t374 t375 t376 t377 _ A15.out).mono ?_); rintro e w23 ⟨rfl, hb⟩; refine ⟨_, rfl, ?_⟩; have n0_ := Aside0.mk (blk_below (g := gb349) (o := .cells #[.bool x350000_2, .bool x350001_2, .int .i64 x350002_2, .bool x350003_2, .bool x350004_2, .bool x350005_2, .bool x350006_2, .int .i64 x350007_2, .bool x350008_2, .bool x350009_2, .bool x350010_2, .bool x350011_2, .bool x350012_2, .bool x350013_2, .bool x350014_2, .bool x350015_2, .int .i64 x350016_2] 23 (0, 0)) (by (with_reducible repeat (first | refine blk_drewN ?_ _ | refine blk_drew ?_ | refine blk_alloc ?_ _)); refine blk_far ?_ NB349_358.out _; (with_reducible repeat (first | refine blk_drewN ?_ _ | refine blk_drew ?_ | refine blk_alloc ?_ _)); refine blk_far ?_ NB349_358.out _; (with_reducible repeat (first | refine blk_drewN ?_ _ | refine blk_drew ?_ | refine blk_alloc ?_ _)); refine blk_far ?_ NB349_358.out _; (with_reducible repeat (first | refine blk_drewN ?_ _ | refine blk_drew ?_ | refine blk_alloc ?_ _)); refine blk_far ?_ NB349_358.out _; (with_reducible repeat (first | refine blk_drewN ?_ _ | refine blk_drew ?_ | refine blk_alloc ?_ _)); refine blk_far ?_ NB349_358.out _; (with_reducible repeat (first | refine blk_drewN ?_ _ | refine blk_drew ?_ | refine blk_alloc ?_ _)); exact BK349.out) hb); have n1_ := Aside0.mk (blk_below (g := gb358) (o := .cells #[.int .i64 t352, .int .i64 t353, .int .i64 t354, .int .i64 t355, .int .i64 t356] 28 (0, 0)) (by (with_reducible repeat (first | refine blk_drewN ?_ _ | refine blk_drew ?_ | refine blk_alloc ?_ _)); refine blk_put (cs := #[.int .i64 t352, .int .i64 t353, .int .i64 t354, .int .i64 t355, .int .i64 0]) ?_ 4 _ rfl; (with_reducible repeat (first | refine blk_drewN ?_ _ | refine blk_drew ?_ | refine blk_alloc ?_ _)); refine blk_put (cs := #[.int .i64 t352, .int .i64 t353, .int .i64 t354, .int .i64 0, .int .i64 0]) ?_ 3 _ rfl; (with_reducible repeat (first | refine blk_drewN ?_ _ | refine blk_drew ?_ | refine blk_alloc ?_ _)); refine blk_put (cs := #[.int .i64 t352, .int .i64 t353, .int .i64 0, .int .i64 0, .int .i64 0]) ?_ 2 _ rfl; (with_reducible repeat (first | refine blk_drewN ?_ _ | refine blk_drew ?_ | refine blk_alloc ?_ _)); refine blk_put (cs := #[.int .i64 t352, .int .i64 0, .int .i64 0, .int .i64 0, .int .i64 0]) ?_ 1 _ rfl; (with_reducible repeat (first | refine blk_drewN ?_ _ | refine blk_drew ?_ | refine blk_alloc ?_ _)); refine blk_put (cs := #[.int .i64 0, .int .i64 0, .int .i64 0, .int .i64 0, .int .i64 0]) ?_ 0 _ rfl; (with_reducible repeat (first | refine blk_drewN ?_ _ | refine blk_drew ?_ | refine blk_alloc ?_ _)); exact BK358.out) hb); have n2_ := Aside0.mk (below_step (by repeat (first | (with_reducible first | exact HB.out | apply below_alloc | apply pw_below_drewN | apply below_drew1 | refine below_set ?_ GE349.out | refine below_set ?_ GE358.out) | exact HB.out)) hb); clear BK349; clear BK358; clear HB; have BK349 := n0_; have BK358 := n1_; have HB := n2_; clear n0_ n1_ n2_; (try clear hb); (try clear hb2); (try clear hk); (try clear hi)) | ((with_reducible refine gate_dst (N := 6) rfl ?_); refine box_event ?hg (N := 6) ?hd (cs := #[.bool false, .bool false, .int .i64 0, .bool false, .bool false, .bool false, .bool false, .int .i64 0, .bool false, .bool false, .bool false, .bool false, .bool false, .bool false, .bool false, .bool false, .int .i64 0]) (t := 23) ?hr ?_; (case hd => rfl); (case hg => rfl); (case hr => first | (go_simp; done) | (go_simp; rfl)); intro gb378 hg w24 hbox hb; have n0_ := Aside0.mk (blk_below (g := gb349) (o := .cells #[.bool x350000_2, .bool x350001_2, .int .i64 x350002_2, .bool x350003_2, .bool x350004_2, .bool x350005_2, .bool x350006_2, .int .i64 x350007_2, .bool x350008_2, .bool x350009_2, .bool x350010_2, .bool x350011_2, .bool x350012_2, .bool x350013_2, .bool x350014_2, .bool x350015_2, .int .i64 x350016_2] 23 (0, 0)) (by (with_reducible repeat (first | refine blk_drewN ?_ _ | refine blk_drew ?_ | refine blk_alloc ?_ _)); exact BK349.out) hb); have n1_ := Aside0.mk (blk_below (g := gb358) (o := .cells #[.int .i64 t352, .int .i64 t353, .int .i64 t354, .int .i64 t355, .int .i64 t356] 28 (0, 0)) (by (with_reducible repeat (first | refine blk_drewN ?_ _ | refine blk_drew ?_ | refine blk_alloc ?_ _)); exact BK358.out) hb); have n2_ := Aside0.mk (below_step (by repeat (first | (with_reducible first | exact HB.out | apply below_alloc | apply pw_below_drewN | apply below_drew1 | refine below_set ?_ GE349.out | refine below_set ?_ GE358.out) | exact HB.out)) hb); have n3_ := Aside0.mk (hbox); have n4_ := Aside0.mk ((by rw [hg]; exact (below_size (by repeat (first | (with_reducible first | exact HB.out | apply below_alloc | apply pw_below_drewN | apply below_drew1 | refine below_set ?_ GE349.out | refine below_set ?_ GE358.out) | exact HB.out))) : w.heap.size ≤ gb378)); have n5_ := Aside0.mk ((by rw [hg]; exact (below_size (by repeat (first | (with_reducible first | exact HB.out | apply below_alloc | apply pw_below_drewN | apply below_drew1 | refine below_set ?_ GE349.out | refine below_set ?_ GE358.out) | exact HB.out))) : w.heap.size ≤ gb378)); have n6_ := Aside0.mk ((by rw [hg]; exact Nat.ne_of_lt (blk_lt (g := gb349) (o := .cells #[.bool x350000_2, .bool x350001_2, .int .i64 x350002_2, .bool x350003_2, .bool x350004_2, .bool x350005_2, .bool x350006_2, .int .i64 x350007_2, .bool x350008_2, .bool x350009_2, .bool x350010_2, .bool x350011_2, .bool x350012_2, .bool x350013_2, .bool x350014_2, .bool x350015_2, .int .i64 x350016_2] 23 (0, 0)) (by (with_reducible repeat (first | refine blk_drewN ?_ _ | refine blk_drew ?_ | refine blk_alloc ?_ _)); exact BK349.out)) : gb349 ≠ gb378)); have n7_ := Aside0.mk ((by rw [hg]; exact Nat.ne_of_gt (blk_lt (g := gb349) (o := .cells #[.bool x350000_2, .bool x350001_2, .int .i64 x350002_2, .bool x350003_2, .bool x350004_2, .bool x350005_2, .bool x350006_2, .int .i64 x350007_2, .bool x350008_2, .bool x350009_2, .bool x350010_2, .bool x350011_2, .bool x350012_2, .bool x350013_2, .bool x350014_2, .bool x350015_2, .int .i64 x350016_2] 23 (0, 0)) (by (with_reducible repeat (first | refine blk_drewN ?_ _ | refine blk_drew ?_ | refine blk_alloc ?_ _)); exact BK349.out)) : gb378 ≠ gb349)); have n8_ := Aside0.mk ((by rw [hg]; exact Nat.ne_of_lt (blk_lt (g := gb358) (o := .cells #[.int .i64 t352, .int .i64 t353, .int .i64 t354, .int .i64 t355, .int .i64 t356] 28 (0, 0)) (by (with_reducible repeat (first | refine blk_drewN ?_ _ | refine blk_drew ?_ | refine blk_alloc ?_ _)); exact BK358.out)) : gb358 ≠ gb378)); have n9_ := Aside0.mk ((by rw [hg]; exact Nat.ne_of_gt (blk_lt (g := gb358) (o := .cells #[.int .i64 t352, .int .i64 t353, .int .i64 t354, .int .i64 t355, .int .i64 t356] 28 (0, 0)) (by (with_reducible repeat (first | refine blk_drewN ?_ _ | refine blk_drew ?_ | refine blk_alloc ?_ _)); exact BK358.out)) : gb378 ≠ gb358)); clear BK349; clear BK358; clear HB; have BK349 := n0_; have BK358 := n1_; have HB := n2_; have BK378 := n3_; have GW378 := n4_; have GE378 := n5_; have NB349_378 := n6_; have NB378_349 := n7_; have NB358_378 := n8_; have NB378_358 := n9_; clear n0_ n1_ n2_ n3_ n4_ n5_ n6_ n7_ n8_ n9_; clear hb hbox hg; have hnb25 := NB378_349.out; have hnc25 := NB349_378.out; have hnb26 := NB378_358.out; have hnc26 := NB358_378.out; have hcz27_0 : w24.cell? ⟨gb378, 0, none⟩ = some (.bool false) := (blk_cell BK378.out 0).trans rfl; have hcz27_1 : w24.cell? ⟨gb378, 1, none⟩ = some (.bool false) := (blk_cell BK378.out 1).trans rfl; have hcz27_2 : w24.cell? ⟨gb378, 2, none⟩ = some (.int .i64 0) := (blk_cell BK378.out 2).trans rfl; have hcz27_3 : w24.cell? ⟨gb378, 3, none⟩ = some (.bool false) := (blk_cell BK378.out 3).trans rfl; have hcz27_4 : w24.cell? ⟨gb378, 4, none⟩ = some (.bool false) := (blk_cell BK378.out 4).trans rfl; have hcz27_5 : w24.cell? ⟨gb378, 5, none⟩ = some (.bool false) := (blk_cell BK378.out 5).trans rfl; have hcz27_6 : w24.cell? ⟨gb378, 6, none⟩ = some (.bool false) := (blk_cell BK378.out 6).trans rfl; have hcz27_7 : w24.cell? ⟨gb378, 7, none⟩ = some (.int .i64 0) := (blk_cell BK378.out 7).trans rfl; have hcz27_8 : w24.cell? ⟨gb378, 8, none⟩ = some (.bool false) := (blk_cell BK378.out 8).trans rfl; have hcz27_9 : w24.cell? ⟨gb378, 9, none⟩ = some (.bool false) := (blk_cell BK378.out 9).trans rfl; have hcz27_10 : w24.cell? ⟨gb378, 10, none⟩ = some (.bool false) := (blk_cell BK378.out 10).trans rfl; have hcz27_11 : w24.cell? ⟨gb378, 11, none⟩ = some (.bool false) := (blk_cell BK378.out 11).trans rfl; have hcz27_12 : w24.cell? ⟨gb378, 12, none⟩ = some (.bool false) := (blk_cell BK378.out 12).trans rfl; have hcz27_13 : w24.cell? ⟨gb378, 13, none⟩ = some (.bool false) := (blk_cell BK378.out 13).trans rfl; have hcz27_14 : w24.cell? ⟨gb378, 14, none⟩ = some (.bool false) := (blk_cell BK378.out 14).trans rfl; have hcz27_15 : w24.cell? ⟨gb378, 15, none⟩ = some (.bool false) := (blk_cell BK378.out 15).trans rfl; have hcz27_16 : w24.cell? ⟨gb378, 16, none⟩ = some (.int .i64 0) := (blk_cell BK378.out 16).trans rfl; have hfz27_0 := blk_frozen BK378.out 0; have hfz27_1 := blk_frozen BK378.out 1; have hfz27_2 := blk_frozen BK378.out 2; have hfz27_3 := blk_frozen BK378.out 3; have hfz27_4 := blk_frozen BK378.out 4; have hfz27_5 := blk_frozen BK378.out 5; have hfz27_6 := blk_frozen BK378.out 6; have hfz27_7 := blk_frozen BK378.out 7; have hfz27_8 := blk_frozen BK378.out 8; have hfz27_9 := blk_frozen BK378.out 9; have hfz27_10 := blk_frozen BK378.out 10; have hfz27_11 := blk_frozen BK378.out 11; have hfz27_12 := blk_frozen BK378.out 12; have hfz27_13 := blk_frozen BK378.out 13; have hfz27_14 := blk_frozen BK378.out 14; have hfz27_15 := blk_frozen BK378.out 15; have hfz27_16 := blk_frozen BK378.out 16))
              (try simp only [Act.put, List.setIfInBounds_toArray, List.set_cons_zero, List.set_cons_succ])
              go_cut [38] (fun v38 wc => ∃ (kq : Nat) (x38_15 : Bool), v38 = .bool x38_15 ∧ Aside0 (estoverslaw26_FaultplanPrivate.j2 kq a0_14 t376 x20_2 x38_15 x350000_2 x350001_2 x350002_2 x350003_2 x350004_2 x350005_2 x350006_2 x350007_2 x350008_2 x350009_2 x350010_2 x350011_2 x350012_2 x350013_2 x350014_2 x350015_2 x350016_2 t352 t353 t354 t355 t356 t359 t360 t361 t362 t363 t364 t365 t366 t367 t368 t369 t370 t371 t372 t373 t374 t375 = some r) ∧ Aside0 (kq ≤ k2) ∧ Aside0 (wc.heap[gb349]? = some (.cells #[.bool x350000_2, .bool x350001_2, .int .i64 x350002_2, .bool x350003_2, .bool x350004_2, .bool x350005_2, .bool x350006_2, .int .i64 x350007_2, .bool x350008_2, .bool x350009_2, .bool x350010_2, .bool x350011_2, .bool x350012_2, .bool x350013_2, .bool x350014_2, .bool x350015_2, .int .i64 x350016_2] 23 (0, 0))) ∧ Aside0 (wc.heap[gb358]? = some (.cells #[.int .i64 t352, .int .i64 t353, .int .i64 t354, .int .i64 t355, .int .i64 t356] 28 (0, 0))) ∧ Aside0 (wc.heap[gb378]? = some (.cells #[.bool t359, .bool t360, .int .i64 t361, .bool t362, .bool t363, .bool t364, .bool t365, .int .i64 t366, .bool t367, .bool t368, .bool t369, .bool t370, .bool t371, .bool t372, .bool t373, .bool t374, .int .i64 t375] 23 (0, 0))) ∧ Aside0 (Below w.heap.size w wc))
              case first =>
                have H := HC16.out
                clear HC16
                by_cases c28 : t357 = 0
                · rw [if_pos c28] at H
                  have c28b0 : (t357 == 0) = true := beq_iff_eq.mpr c28
                  have c28b1 : (t357 != 0) = false := bne_eq_false_iff_eq.mpr c28
                  clear c28
                  (first | rw [c28b0] | (simp only [i64_w, i32_w]; rw [c28b0]) | skip)
                  have H' := Aside0.mk H
                  clear H
                  go_wp2
                  go_meet
                  case rel => exact ⟨_, ((t377 != 0)), (by first | rfl | (simp; done) | (simp [*]; done)), H', ⟨by have := HJ1.out; have := HK2.out; first | omega | exact Nat.le_refl _⟩, ⟨by (with_reducible repeat (first | refine blk_drewN ?_ _ | refine blk_drew ?_ | refine blk_alloc ?_ _)); refine blk_far ?_ NB349_378.out _; (with_reducible repeat (first | refine blk_drewN ?_ _ | refine blk_drew ?_ | refine blk_alloc ?_ _)); refine blk_far ?_ NB349_378.out _; (with_reducible repeat (first | refine blk_drewN ?_ _ | refine blk_drew ?_ | refine blk_alloc ?_ _)); refine blk_far ?_ NB349_378.out _; (with_reducible repeat (first | refine blk_drewN ?_ _ | refine blk_drew ?_ | refine blk_alloc ?_ _)); refine blk_far ?_ NB349_378.out _; (with_reducible repeat (first | refine blk_drewN ?_ _ | refine blk_drew ?_ | refine blk_alloc ?_ _)); refine blk_far ?_ NB349_378.out _; (with_reducible repeat (first | refine blk_drewN ?_ _ | refine blk_drew ?_ | refine blk_alloc ?_ _)); refine blk_far ?_ NB349_378.out _; (with_reducible repeat (first | refine blk_drewN ?_ _ | refine blk_drew ?_ | refine blk_alloc ?_ _)); refine blk_far ?_ NB349_378.out _; (with_reducible repeat (first | refine blk_drewN ?_ _ | refine blk_drew ?_ | refine blk_alloc ?_ _)); refine blk_far ?_ NB349_378.out _; (with_reducible repeat (first | refine blk_drewN ?_ _ | refine blk_drew ?_ | refine blk_alloc ?_ _)); refine blk_far ?_ NB349_378.out _; (with_reducible repeat (first | refine blk_drewN ?_ _ | refine blk_drew ?_ | refine blk_alloc ?_ _)); refine blk_far ?_ NB349_378.out _; (with_reducible repeat (first | refine blk_drewN ?_ _ | refine blk_drew ?_ | refine blk_alloc ?_ _)); refine blk_far ?_ NB349_378.out _; (with_reducible repeat (first | refine blk_drewN ?_ _ | refine blk_drew ?_ | refine blk_alloc ?_ _)); refine blk_far ?_ NB349_378.out _; (with_reducible repeat (first | refine blk_drewN ?_ _ | refine blk_drew ?_ | refine blk_alloc ?_ _)); refine blk_far ?_ NB349_378.out _; (with_reducible repeat (first | refine blk_drewN ?_ _ | refine blk_drew ?_ | refine blk_alloc ?_ _)); refine blk_far ?_ NB349_378.out _; (with_reducible repeat (first | refine blk_drewN ?_ _ | refine blk_drew ?_ | refine blk_alloc ?_ _)); refine blk_far ?_ NB349_378.out _; (with_reducible repeat (first | refine blk_drewN ?_ _ | refine blk_drew ?_ | refine blk_alloc ?_ _)); refine blk_far ?_ NB349_378.out _; (with_reducible repeat (first | refine blk_drewN ?_ _ | refine blk_drew ?_ | refine blk_alloc ?_ _)); refine blk_far ?_ NB349_378.out _; (with_reducible repeat (first | refine blk_drewN ?_ _ | refine blk_drew ?_ | refine blk_alloc ?_ _)); exact BK349.out⟩, ⟨by (with_reducible repeat (first | refine blk_drewN ?_ _ | refine blk_drew ?_ | refine blk_alloc ?_ _)); refine blk_far ?_ NB358_378.out _; (with_reducible repeat (first | refine blk_drewN ?_ _ | refine blk_drew ?_ | refine blk_alloc ?_ _)); refine blk_far ?_ NB358_378.out _; (with_reducible repeat (first | refine blk_drewN ?_ _ | refine blk_drew ?_ | refine blk_alloc ?_ _)); refine blk_far ?_ NB358_378.out _; (with_reducible repeat (first | refine blk_drewN ?_ _ | refine blk_drew ?_ | refine blk_alloc ?_ _)); refine blk_far ?_ NB358_378.out _; (with_reducible repeat (first | refine blk_drewN ?_ _ | refine blk_drew ?_ | refine blk_alloc ?_ _)); refine blk_far ?_ NB358_378.out _; (with_reducible repeat (first | refine blk_drewN ?_ _ | refine blk_drew ?_ | refine blk_alloc ?_ _)); refine blk_far ?_ NB358_378.out _; (with_reducible repeat (first | refine blk_drewN ?_ _ | refine blk_drew ?_ | refine blk_alloc ?_ _)); refine blk_far ?_ NB358_378.out _; (with_reducible repeat (first | refine blk_drewN ?_ _ | refine blk_drew ?_ | refine blk_alloc ?_ _)); refine blk_far ?_ NB358_378.out _; (with_reducible repeat (first | refine blk_drewN ?_ _ | refine blk_drew ?_ | refine blk_alloc ?_ _)); refine blk_far ?_ NB358_378.out _; (with_reducible repeat (first | refine blk_drewN ?_ _ | refine blk_drew ?_ | refine blk_alloc ?_ _)); refine blk_far ?_ NB358_378.out _; (with_reducible repeat (first | refine blk_drewN ?_ _ | refine blk_drew ?_ | refine blk_alloc ?_ _)); refine blk_far ?_ NB358_378.out _; (with_reducible repeat (first | refine blk_drewN ?_ _ | refine blk_drew ?_ | refine blk_alloc ?_ _)); refine blk_far ?_ NB358_378.out _; (with_reducible repeat (first | refine blk_drewN ?_ _ | refine blk_drew ?_ | refine blk_alloc ?_ _)); refine blk_far ?_ NB358_378.out _; (with_reducible repeat (first | refine blk_drewN ?_ _ | refine blk_drew ?_ | refine blk_alloc ?_ _)); refine blk_far ?_ NB358_378.out _; (with_reducible repeat (first | refine blk_drewN ?_ _ | refine blk_drew ?_ | refine blk_alloc ?_ _)); refine blk_far ?_ NB358_378.out _; (with_reducible repeat (first | refine blk_drewN ?_ _ | refine blk_drew ?_ | refine blk_alloc ?_ _)); refine blk_far ?_ NB358_378.out _; (with_reducible repeat (first | refine blk_drewN ?_ _ | refine blk_drew ?_ | refine blk_alloc ?_ _)); refine blk_far ?_ NB358_378.out _; (with_reducible repeat (first | refine blk_drewN ?_ _ | refine blk_drew ?_ | refine blk_alloc ?_ _)); exact BK358.out⟩, ⟨by (with_reducible repeat (first | refine blk_drewN ?_ _ | refine blk_drew ?_ | refine blk_alloc ?_ _)); refine blk_put (cs := #[.bool t359, .bool t360, .int .i64 t361, .bool t362, .bool t363, .bool t364, .bool t365, .int .i64 t366, .bool t367, .bool t368, .bool t369, .bool t370, .bool t371, .bool t372, .bool t373, .bool t374, .int .i64 0]) ?_ 16 _ rfl; (with_reducible repeat (first | refine blk_drewN ?_ _ | refine blk_drew ?_ | refine blk_alloc ?_ _)); refine blk_put (cs := #[.bool t359, .bool t360, .int .i64 t361, .bool t362, .bool t363, .bool t364, .bool t365, .int .i64 t366, .bool t367, .bool t368, .bool t369, .bool t370, .bool t371, .bool t372, .bool t373, .bool false, .int .i64 0]) ?_ 15 _ rfl; (with_reducible repeat (first | refine blk_drewN ?_ _ | refine blk_drew ?_ | refine blk_alloc ?_ _)); refine blk_put (cs := #[.bool t359, .bool t360, .int .i64 t361, .bool t362, .bool t363, .bool t364, .bool t365, .int .i64 t366, .bool t367, .bool t368, .bool t369, .bool t370, .bool t371, .bool t372, .bool false, .bool false, .int .i64 0]) ?_ 14 _ rfl; (with_reducible repeat (first | refine blk_drewN ?_ _ | refine blk_drew ?_ | refine blk_alloc ?_ _)); refine blk_put (cs := #[.bool t359, .bool t360, .int .i64 t361, .bool t362, .bool t363, .bool t364, .bool t365, .int .i64 t366, .bool t367, .bool t368, .bool t369, .bool t370, .bool t371, .bool false, .bool false, .bool false, .int .i64 0]) ?_ 13 _ rfl; (with_reducible repeat (first | refine blk_drewN ?_ _ | refine blk_drew ?_ | refine blk_alloc ?_ _)); refine blk_put (cs := #[.bool t359, .bool t360, .int .i64 t361, .bool t362, .bool t363, .bool t364, .bool t365, .int .i64 t366, .bool t367, .bool t368, .bool t369, .bool t370, .bool false, .bool false, .bool false, .bool false, .int .i64 0]) ?_ 12 _ rfl; (with_reducible repeat (first | refine blk_drewN ?_ _ | refine blk_drew ?_ | refine blk_alloc ?_ _)); refine blk_put (cs := #[.bool t359, .bool t360, .int .i64 t361, .bool t362, .bool t363, .bool t364, .bool t365, .int .i64 t366, .bool t367, .bool t368, .bool t369, .bool false, .bool false, .bool false, .bool false, .bool false, .int .i64 0]) ?_ 11 _ rfl; (with_reducible repeat (first | refine blk_drewN ?_ _ | refine blk_drew ?_ | refine blk_alloc ?_ _)); refine blk_put (cs := #[.bool t359, .bool t360, .int .i64 t361, .bool t362, .bool t363, .bool t364, .bool t365, .int .i64 t366, .bool t367, .bool t368, .bool false, .bool false, .bool false, .bool false, .bool false, .bool false, .int .i64 0]) ?_ 10 _ rfl; (with_reducible repeat (first | refine blk_drewN ?_ _ | refine blk_drew ?_ | refine blk_alloc ?_ _)); refine blk_put (cs := #[.bool t359, .bool t360, .int .i64 t361, .bool t362, .bool t363, .bool t364, .bool t365, .int .i64 t366, .bool t367, .bool false, .bool false, .bool false, .bool false, .bool false, .bool false, .bool false, .int .i64 0]) ?_ 9 _ rfl; (with_reducible repeat (first | refine blk_drewN ?_ _ | refine blk_drew ?_ | refine blk_alloc ?_ _)); refine blk_put (cs := #[.bool t359, .bool t360, .int .i64 t361, .bool t362, .bool t363, .bool t364, .bool t365, .int .i64 t366, .bool false, .bool false, .bool false, .bool false, .bool false, .bool false, .bool false, .bool false, .int .i64 0]) ?_ 8 _ rfl; (with_reducible repeat (first | refine blk_drewN ?_ _ | refine blk_drew ?_ | refine blk_alloc ?_ _)); refine blk_put (cs := #[.bool t359, .bool t360, .int .i64 t361, .bool t362, .bool t363, .bool t364, .bool t365, .int .i64 0, .bool false, .bool false, .bool false, .bool false, .bool false, .bool false, .bool false, .bool false, .int .i64 0]) ?_ 7 _ rfl; (with_reducible repeat (first | refine blk_drewN ?_ _ | refine blk_drew ?_ | refine blk_alloc ?_ _)); refine blk_put (cs := #[.bool t359, .bool t360, .int .i64 t361, .bool t362, .bool t363, .bool t364, .bool false, .int .i64 0, .bool false, .bool false, .bool false, .bool false, .bool false, .bool false, .bool false, .bool false, .int .i64 0]) ?_ 6 _ rfl; (with_reducible repeat (first | refine blk_drewN ?_ _ | refine blk_drew ?_ | refine blk_alloc ?_ _)); refine blk_put (cs := #[.bool t359, .bool t360, .int .i64 t361, .bool t362, .bool t363, .bool false, .bool false, .int .i64 0, .bool false, .bool false, .bool false, .bool false, .bool false, .bool false, .bool false, .bool false, .int .i64 0]) ?_ 5 _ rfl; (with_reducible repeat (first | refine blk_drewN ?_ _ | refine blk_drew ?_ | refine blk_alloc ?_ _)); refine blk_put (cs := #[.bool t359, .bool t360, .int .i64 t361, .bool t362, .bool false, .bool false, .bool false, .int .i64 0, .bool false, .bool false, .bool false, .bool false, .bool false, .bool false, .bool false, .bool false, .int .i64 0]) ?_ 4 _ rfl; (with_reducible repeat (first | refine blk_drewN ?_ _ | refine blk_drew ?_ | refine blk_alloc ?_ _)); refine blk_put (cs := #[.bool t359, .bool t360, .int .i64 t361, .bool false, .bool false, .bool false, .bool false, .int .i64 0, .bool false, .bool false, .bool false, .bool false, .bool false, .bool false, .bool false, .bool false, .int .i64 0]) ?_ 3 _ rfl; (with_reducible repeat (first | refine blk_drewN ?_ _ | refine blk_drew ?_ | refine blk_alloc ?_ _)); refine blk_put (cs := #[.bool t359, .bool t360, .int .i64 0, .bool false, .bool false, .bool false, .bool false, .int .i64 0, .bool false, .bool false, .bool false, .bool false, .bool false, .bool false, .bool false, .bool false, .int .i64 0]) ?_ 2 _ rfl; (with_reducible repeat (first | refine blk_drewN ?_ _ | refine blk_drew ?_ | refine blk_alloc ?_ _)); refine blk_put (cs := #[.bool t359, .bool false, .int .i64 0, .bool false, .bool false, .bool false, .bool false, .int .i64 0, .bool false, .bool false, .bool false, .bool false, .bool false, .bool false, .bool false, .bool false, .int .i64 0]) ?_ 1 _ rfl; (with_reducible repeat (first | refine blk_drewN ?_ _ | refine blk_drew ?_ | refine blk_alloc ?_ _)); refine blk_put (cs := #[.bool false, .bool false, .int .i64 0, .bool false, .bool false, .bool false, .bool false, .int .i64 0, .bool false, .bool false, .bool false, .bool false, .bool false, .bool false, .bool false, .bool false, .int .i64 0]) ?_ 0 _ rfl; (with_reducible repeat (first | refine blk_drewN ?_ _ | refine blk_drew ?_ | refine blk_alloc ?_ _)); exact BK378.out⟩, ⟨by repeat (first | (with_reducible first | exact HB.out | apply below_alloc | apply pw_below_drewN | apply below_drew1 | refine below_set ?_ GE349.out | refine below_set ?_ GE358.out | refine below_set ?_ GE378.out) | exact HB.out)⟩⟩
                · rw [if_neg c28] at H
                  have c28b0 : (t357 == 0) = false := beq_eq_false_iff_ne.mpr c28
                  have c28b1 : (t357 != 0) = true := bne_iff_ne.mpr c28
                  (first | rw [c28b0] | (simp only [i64_w, i32_w]; rw [c28b0]) | skip)
                  have H' := Aside0.mk H
                  clear H
                  go_wp2
                  go_meet
                  case rel => exact ⟨_, (true), (by first | rfl | (simp; done) | (simp [*]; done)), H', ⟨by have := HJ1.out; have := HK2.out; first | omega | exact Nat.le_refl _⟩, ⟨by (with_reducible repeat (first | refine blk_drewN ?_ _ | refine blk_drew ?_ | refine blk_alloc ?_ _)); refine blk_far ?_ NB349_378.out _; (with_reducible repeat (first | refine blk_drewN ?_ _ | refine blk_drew ?_ | refine blk_alloc ?_ _)); refine blk_far ?_ NB349_378.out _; (with_reducible repeat (first | refine blk_drewN ?_ _ | refine blk_drew ?_ | refine blk_alloc ?_ _)); refine blk_far ?_ NB349_378.out _; (with_reducible repeat (first | refine blk_drewN ?_ _ | refine blk_drew ?_ | refine blk_alloc ?_ _)); refine blk_far ?_ NB349_378.out _; (with_reducible repeat (first | refine blk_drewN ?_ _ | refine blk_drew ?_ | refine blk_alloc ?_ _)); refine blk_far ?_ NB349_378.out _; (with_reducible repeat (first | refine blk_drewN ?_ _ | refine blk_drew ?_ | refine blk_alloc ?_ _)); refine blk_far ?_ NB349_378.out _; (with_reducible repeat (first | refine blk_drewN ?_ _ | refine blk_drew ?_ | refine blk_alloc ?_ _)); refine blk_far ?_ NB349_378.out _; (with_reducible repeat (first | refine blk_drewN ?_ _ | refine blk_drew ?_ | refine blk_alloc ?_ _)); refine blk_far ?_ NB349_378.out _; (with_reducible repeat (first | refine blk_drewN ?_ _ | refine blk_drew ?_ | refine blk_alloc ?_ _)); refine blk_far ?_ NB349_378.out _; (with_reducible repeat (first | refine blk_drewN ?_ _ | refine blk_drew ?_ | refine blk_alloc ?_ _)); refine blk_far ?_ NB349_378.out _; (with_reducible repeat (first | refine blk_drewN ?_ _ | refine blk_drew ?_ | refine blk_alloc ?_ _)); refine blk_far ?_ NB349_378.out _; (with_reducible repeat (first | refine blk_drewN ?_ _ | refine blk_drew ?_ | refine blk_alloc ?_ _)); refine blk_far ?_ NB349_378.out _; (with_reducible repeat (first | refine blk_drewN ?_ _ | refine blk_drew ?_ | refine blk_alloc ?_ _)); refine blk_far ?_ NB349_378.out _; (with_reducible repeat (first | refine blk_drewN ?_ _ | refine blk_drew ?_ | refine blk_alloc ?_ _)); refine blk_far ?_ NB349_378.out _; (with_reducible repeat (first | refine blk_drewN ?_ _ | refine blk_drew ?_ | refine blk_alloc ?_ _)); refine blk_far ?_ NB349_378.out _; (with_reducible repeat (first | refine blk_drewN ?_ _ | refine blk_drew ?_ | refine blk_alloc ?_ _)); refine blk_far ?_ NB349_378.out _; (with_reducible repeat (first | refine blk_drewN ?_ _ | refine blk_drew ?_ | refine blk_alloc ?_ _)); refine blk_far ?_ NB349_378.out _; (with_reducible repeat (first | refine blk_drewN ?_ _ | refine blk_drew ?_ | refine blk_alloc ?_ _)); exact BK349.out⟩, ⟨by (with_reducible repeat (first | refine blk_drewN ?_ _ | refine blk_drew ?_ | refine blk_alloc ?_ _)); refine blk_far ?_ NB358_378.out _; (with_reducible repeat (first | refine blk_drewN ?_ _ | refine blk_drew ?_ | refine blk_alloc ?_ _)); refine blk_far ?_ NB358_378.out _; (with_reducible repeat (first | refine blk_drewN ?_ _ | refine blk_drew ?_ | refine blk_alloc ?_ _)); refine blk_far ?_ NB358_378.out _; (with_reducible repeat (first | refine blk_drewN ?_ _ | refine blk_drew ?_ | refine blk_alloc ?_ _)); refine blk_far ?_ NB358_378.out _; (with_reducible repeat (first | refine blk_drewN ?_ _ | refine blk_drew ?_ | refine blk_alloc ?_ _)); refine blk_far ?_ NB358_378.out _; (with_reducible repeat (first | refine blk_drewN ?_ _ | refine blk_drew ?_ | refine blk_alloc ?_ _)); refine blk_far ?_ NB358_378.out _; (with_reducible repeat (first | refine blk_drewN ?_ _ | refine blk_drew ?_ | refine blk_alloc ?_ _)); refine blk_far ?_ NB358_378.out _; (with_reducible repeat (first | refine blk_drewN ?_ _ | refine blk_drew ?_ | refine blk_alloc ?_ _)); refine blk_far ?_ NB358_378.out _; (with_reducible repeat (first | refine blk_drewN ?_ _ | refine blk_drew ?_ | refine blk_alloc ?_ _)); refine blk_far ?_ NB358_378.out _; (with_reducible repeat (first | refine blk_drewN ?_ _ | refine blk_drew ?_ | refine blk_alloc ?_ _)); refine blk_far ?_ NB358_378.out _; (with_reducible repeat (first | refine blk_drewN ?_ _ | refine blk_drew ?_ | refine blk_alloc ?_ _)); refine blk_far ?_ NB358_378.out _; (with_reducible repeat (first | refine blk_drewN ?_ _ | refine blk_drew ?_ | refine blk_alloc ?_ _)); refine blk_far ?_ NB358_378.out _; (with_reducible repeat (first | refine blk_drewN ?_ _ | refine blk_drew ?_ | refine blk_alloc ?_ _)); refine blk_far ?_ NB358_378.out _; (with_reducible repeat (first | refine blk_drewN ?_ _ | refine blk_drew ?_ | refine blk_alloc ?_ _)); refine blk_far ?_ NB358_378.out _; (with_reducible repeat (first | refine blk_drewN ?_ _ | refine blk_drew ?_ | refine blk_alloc ?_ _)); refine blk_far ?_ NB358_378.out _; (with_reducible repeat (first | refine blk_drewN ?_ _ | refine blk_drew ?_ | refine blk_alloc ?_ _)); refine blk_far ?_ NB358_378.out _; (with_reducible repeat (first | refine blk_drewN ?_ _ | refine blk_drew ?_ | refine blk_alloc ?_ _)); refine blk_far ?_ NB358_378.out _; (with_reducible repeat (first | refine blk_drewN ?_ _ | refine blk_drew ?_ | refine blk_alloc ?_ _)); exact BK358.out⟩, ⟨by (with_reducible repeat (first | refine blk_drewN ?_ _ | refine blk_drew ?_ | refine blk_alloc ?_ _)); refine blk_put (cs := #[.bool t359, .bool t360, .int .i64 t361, .bool t362, .bool t363, .bool t364, .bool t365, .int .i64 t366, .bool t367, .bool t368, .bool t369, .bool t370, .bool t371, .bool t372, .bool t373, .bool t374, .int .i64 0]) ?_ 16 _ rfl; (with_reducible repeat (first | refine blk_drewN ?_ _ | refine blk_drew ?_ | refine blk_alloc ?_ _)); refine blk_put (cs := #[.bool t359, .bool t360, .int .i64 t361, .bool t362, .bool t363, .bool t364, .bool t365, .int .i64 t366, .bool t367, .bool t368, .bool t369, .bool t370, .bool t371, .bool t372, .bool t373, .bool false, .int .i64 0]) ?_ 15 _ rfl; (with_reducible repeat (first | refine blk_drewN ?_ _ | refine blk_drew ?_ | refine blk_alloc ?_ _)); refine blk_put (cs := #[.bool t359, .bool t360, .int .i64 t361, .bool t362, .bool t363, .bool t364, .bool t365, .int .i64 t366, .bool t367, .bool t368, .bool t369, .bool t370, .bool t371, .bool t372, .bool false, .bool false, .int .i64 0]) ?_ 14 _ rfl; (with_reducible repeat (first | refine blk_drewN ?_ _ | refine blk_drew ?_ | refine blk_alloc ?_ _)); refine blk_put (cs := #[.bool t359, .bool t360, .int .i64 t361, .bool t362, .bool t363, .bool t364, .bool t365, .int .i64 t366, .bool t367, .bool t368, .bool t369, .bool t370, .bool t371, .bool false, .bool false, .bool false, .int .i64 0]) ?_ 13 _ rfl; (with_reducible repeat (first | refine blk_drewN ?_ _ | refine blk_drew ?_ | refine blk_alloc ?_ _)); refine blk_put (cs := #[.bool t359, .bool t360, .int .i64 t361, .bool t362, .bool t363, .bool t364, .bool t365, .int .i64 t366, .bool t367, .bool t368, .bool t369, .bool t370, .bool false, .bool false, .bool false, .bool false, .int .i64 0]) ?_ 12 _ rfl; (with_reducible repeat (first | refine blk_drewN ?_ _ | refine blk_drew ?_ | refine blk_alloc ?_ _)); refine blk_put (cs := #[.bool t359, .bool t360, .int .i64 t361, .bool t362, .bool t363, .bool t364, .bool t365, .int .i64 t366, .bool t367, .bool t368, .bool t369, .bool false, .bool false, .bool false, .bool false, .bool false, .int .i64 0]) ?_ 11 _ rfl; (with_reducible repeat (first | refine blk_drewN ?_ _ | refine blk_drew ?_ | refine blk_alloc ?_ _)); refine blk_put (cs := #[.bool t359, .bool t360, .int .i64 t361, .bool t362, .bool t363, .bool t364, .bool t365, .int .i64 t366, .bool t367, .bool t368, .bool false, .bool false, .bool false, .bool false, .bool false, .bool false, .int .i64 0]) ?_ 10 _ rfl; (with_reducible repeat (first | refine blk_drewN ?_ _ | refine blk_drew ?_ | refine blk_alloc ?_ _)); refine blk_put (cs := #[.bool t359, .bool t360, .int .i64 t361, .bool t362, .bool t363, .bool t364, .bool t365, .int .i64 t366, .bool t367, .bool false, .bool false, .bool false, .bool false, .bool false, .bool false, .bool false, .int .i64 0]) ?_ 9 _ rfl; (with_reducible repeat (first | refine blk_drewN ?_ _ | refine blk_drew ?_ | refine blk_alloc ?_ _)); refine blk_put (cs := #[.bool t359, .bool t360, .int .i64 t361, .bool t362, .bool t363, .bool t364, .bool t365, .int .i64 t366, .bool false, .bool false, .bool false, .bool false, .bool false, .bool false, .bool false, .bool false, .int .i64 0]) ?_ 8 _ rfl; (with_reducible repeat (first | refine blk_drewN ?_ _ | refine blk_drew ?_ | refine blk_alloc ?_ _)); refine blk_put (cs := #[.bool t359, .bool t360, .int .i64 t361, .bool t362, .bool t363, .bool t364, .bool t365, .int .i64 0, .bool false, .bool false, .bool false, .bool false, .bool false, .bool false, .bool false, .bool false, .int .i64 0]) ?_ 7 _ rfl; (with_reducible repeat (first | refine blk_drewN ?_ _ | refine blk_drew ?_ | refine blk_alloc ?_ _)); refine blk_put (cs := #[.bool t359, .bool t360, .int .i64 t361, .bool t362, .bool t363, .bool t364, .bool false, .int .i64 0, .bool false, .bool false, .bool false, .bool false, .bool false, .bool false, .bool false, .bool false, .int .i64 0]) ?_ 6 _ rfl; (with_reducible repeat (first | refine blk_drewN ?_ _ | refine blk_drew ?_ | refine blk_alloc ?_ _)); refine blk_put (cs := #[.bool t359, .bool t360, .int .i64 t361, .bool t362, .bool t363, .bool false, .bool false, .int .i64 0, .bool false, .bool false, .bool false, .bool false, .bool false, .bool false, .bool false, .bool false, .int .i64 0]) ?_ 5 _ rfl; (with_reducible repeat (first | refine blk_drewN ?_ _ | refine blk_drew ?_ | refine blk_alloc ?_ _)); refine blk_put (cs := #[.bool t359, .bool t360, .int .i64 t361, .bool t362, .bool false, .bool false, .bool false, .int .i64 0, .bool false, .bool false, .bool false, .bool false, .bool false, .bool false, .bool false, .bool false, .int .i64 0]) ?_ 4 _ rfl; (with_reducible repeat (first | refine blk_drewN ?_ _ | refine blk_drew ?_ | refine blk_alloc ?_ _)); refine blk_put (cs := #[.bool t359, .bool t360, .int .i64 t361, .bool false, .bool false, .bool false, .bool false, .int .i64 0, .bool false, .bool false, .bool false, .bool false, .bool false, .bool false, .bool false, .bool false, .int .i64 0]) ?_ 3 _ rfl; (with_reducible repeat (first | refine blk_drewN ?_ _ | refine blk_drew ?_ | refine blk_alloc ?_ _)); refine blk_put (cs := #[.bool t359, .bool t360, .int .i64 0, .bool false, .bool false, .bool false, .bool false, .int .i64 0, .bool false, .bool false, .bool false, .bool false, .bool false, .bool false, .bool false, .bool false, .int .i64 0]) ?_ 2 _ rfl; (with_reducible repeat (first | refine blk_drewN ?_ _ | refine blk_drew ?_ | refine blk_alloc ?_ _)); refine blk_put (cs := #[.bool t359, .bool false, .int .i64 0, .bool false, .bool false, .bool false, .bool false, .int .i64 0, .bool false, .bool false, .bool false, .bool false, .bool false, .bool false, .bool false, .bool false, .int .i64 0]) ?_ 1 _ rfl; (with_reducible repeat (first | refine blk_drewN ?_ _ | refine blk_drew ?_ | refine blk_alloc ?_ _)); refine blk_put (cs := #[.bool false, .bool false, .int .i64 0, .bool false, .bool false, .bool false, .bool false, .int .i64 0, .bool false, .bool false, .bool false, .bool false, .bool false, .bool false, .bool false, .bool false, .int .i64 0]) ?_ 0 _ rfl; (with_reducible repeat (first | refine blk_drewN ?_ _ | refine blk_drew ?_ | refine blk_alloc ?_ _)); exact BK378.out⟩, ⟨by repeat (first | (with_reducible first | exact HB.out | apply below_alloc | apply pw_below_drewN | apply below_drew1 | refine below_set ?_ GE349.out | refine below_set ?_ GE358.out | refine below_set ?_ GE378.out) | exact HB.out)⟩⟩
              case rest =>
                clear HC16
                try clear c1
                try clear c2
                try clear p2
                try clear c4
                try clear c9
                try clear c12
                try clear c13
                try clear c13b0
                try clear c15
                try clear c20
                try clear c25
                try clear c26
                try clear c28
                try clear c28b0
                try clear c28b1
                try clear hcz12_0
                try clear hcz12_1
                try clear hcz12_10
                try clear hcz12_11
                try clear hcz12_12
                try clear hcz12_13
                try clear hcz12_14
                try clear hcz12_15
                try clear hcz12_16
                try clear hcz12_2
                try clear hcz12_3
                try clear hcz12_4
                try clear hcz12_5
                try clear hcz12_6
                try clear hcz12_7
                try clear hcz12_8
                try clear hcz12_9
                try clear hcz17_0
                try clear hcz17_1
                try clear hcz17_10
                try clear hcz17_11
                try clear hcz17_12
                try clear hcz17_13
                try clear hcz17_14
                try clear hcz17_15
                try clear hcz17_16
                try clear hcz17_2
                try clear hcz17_3
                try clear hcz17_4
                try clear hcz17_5
                try clear hcz17_6
                try clear hcz17_7
                try clear hcz17_8
                try clear hcz17_9
                try clear hcz21_0
                try clear hcz21_1
                try clear hcz21_2
                try clear hcz21_3
                try clear hcz21_4
                try clear hcz22_0
                try clear hcz22_1
                try clear hcz22_10
                try clear hcz22_11
                try clear hcz22_12
                try clear hcz22_13
                try clear hcz22_14
                try clear hcz22_15
                try clear hcz22_16
                try clear hcz22_2
                try clear hcz22_3
                try clear hcz22_4
                try clear hcz22_5
                try clear hcz22_6
                try clear hcz22_7
                try clear hcz22_8
                try clear hcz22_9
                try clear hcz27_0
                try clear hcz27_1
                try clear hcz27_10
                try clear hcz27_11
                try clear hcz27_12
                try clear hcz27_13
                try clear hcz27_14
                try clear hcz27_15
                try clear hcz27_16
                try clear hcz27_2
                try clear hcz27_3
                try clear hcz27_4
                try clear hcz27_5
                try clear hcz27_6
                try clear hcz27_7
                try clear hcz27_8
                try clear hcz27_9
                try clear hcz6_0
                try clear hcz6_1
                try clear hcz6_10
                try clear hcz6_11
                try clear hcz6_12
                try clear hcz6_13
                try clear hcz6_14
                try clear hcz6_15
                try clear hcz6_16
                try clear hcz6_2
                try clear hcz6_3
                try clear hcz6_4
                try clear hcz6_5
                try clear hcz6_6
                try clear hcz6_7
                try clear hcz6_8
                try clear hcz6_9
                try clear hcz8_0
                try clear hcz8_1
                try clear hcz8_10
                try clear hcz8_11
                try clear hcz8_12
                try clear hcz8_13
                try clear hcz8_14
                try clear hcz8_15
                try clear hcz8_16
                try clear hcz8_2
                try clear hcz8_3
                try clear hcz8_4
                try clear hcz8_5
                try clear hcz8_6
                try clear hcz8_7
                try clear hcz8_8
                try clear hcz8_9
                try clear hfz12_0
                try clear hfz12_1
                try clear hfz12_10
                try clear hfz12_11
                try clear hfz12_12
                try clear hfz12_13
                try clear hfz12_14
                try clear hfz12_15
                try clear hfz12_16
                try clear hfz12_2
                try clear hfz12_3
                try clear hfz12_4
                try clear hfz12_5
                try clear hfz12_6
                try clear hfz12_7
                try clear hfz12_8
                try clear hfz12_9
                try clear hfz17_0
                try clear hfz17_1
                try clear hfz17_10
                try clear hfz17_11
                try clear hfz17_12
                try clear hfz17_13
                try clear hfz17_14
                try clear hfz17_15
                try clear hfz17_16
                try clear hfz17_2
                try clear hfz17_3
                try clear hfz17_4
                try clear hfz17_5
                try clear hfz17_6
                try clear hfz17_7
                try clear hfz17_8
                try clear hfz17_9
                try clear hfz21_0
                try clear hfz21_1
                try clear hfz21_2
                try clear hfz21_3
                try clear hfz21_4
                try clear hfz22_0
                try clear hfz22_1
                try clear hfz22_10
                try clear hfz22_11
                try clear hfz22_12
                try clear hfz22_13
                try clear hfz22_14
                try clear hfz22_15
                try clear hfz22_16
                try clear hfz22_2
                try clear hfz22_3
                try clear hfz22_4
                try clear hfz22_5
                try clear hfz22_6
                try clear hfz22_7
                try clear hfz22_8
                try clear hfz22_9
                try clear hfz27_0
                try clear hfz27_1
                try clear hfz27_10
                try clear hfz27_11
                try clear hfz27_12
                try clear hfz27_13
                try clear hfz27_14
                try clear hfz27_15
                try clear hfz27_16
                try clear hfz27_2
                try clear hfz27_3
                try clear hfz27_4
                try clear hfz27_5
                try clear hfz27_6
                try clear hfz27_7
                try clear hfz27_8
                try clear hfz27_9
                try clear hfz6_0
                try clear hfz6_1
                try clear hfz6_10
                try clear hfz6_11
                try clear hfz6_12
                try clear hfz6_13
                try clear hfz6_14
                try clear hfz6_15
                try clear hfz6_16
                try clear hfz6_2
                try clear hfz6_3
                try clear hfz6_4
                try clear hfz6_5
                try clear hfz6_6
                try clear hfz6_7
                try clear hfz6_8
                try clear hfz6_9
                try clear hfz8_0
                try clear hfz8_1
                try clear hfz8_10
                try clear hfz8_11
                try clear hfz8_12
                try clear hfz8_13
                try clear hfz8_14
                try clear hfz8_15
                try clear hfz8_16
                try clear hfz8_2
                try clear hfz8_3
                try clear hfz8_4
                try clear hfz8_5
                try clear hfz8_6
                try clear hfz8_7
                try clear hfz8_8
                try clear hfz8_9
                try clear p2
                obtain ⟨kq, x38_15, rfl, HA, HJ15, BK349, BK358, BK378, HB⟩ := hcut
                cases kq with
                | zero => exact absurd HA.out (by simp [estoverslaw26_FaultplanPrivate.j2])
                | succ kj15 =>
                  have H := HA.out
                  clear HA
                  simp only [estoverslaw26_FaultplanPrivate.j2] at H
                  by_cases c29 : x38_15 = true
                  · subst c29
                    have H1 : (some false) = some r := by rw [if_pos rfl] at H; exact H
                    clear H
                    have H := H1
                    clear H1
                    obtain rfl := Option.some.inj H
                    go_wp2
                    go_ret
                    exact ⟨by first | rfl | (simp [errW_none, errW_some] <;> rfl) | (simp [*, errW_none, errW_some] <;> rfl), by repeat (first | (with_reducible first | exact HB.out | apply below_alloc | apply pw_below_drewN | apply below_drew1 | refine below_set ?_ GE349.out | refine below_set ?_ GE358.out | refine below_set ?_ GE378.out) | exact HB.out)⟩
                  · replace c29 := Bool.eq_false_iff.mpr c29
                    subst c29
                    have H1 : (if x350003_2 = true then (if t352 = 9 then (estoverslaw26_FaultplanPrivate.j3 kj15 a0_14 t376 x20_2 true t359 t360 t361 t362 t363 t364 t365 t366 t367 t368 t369 t370 t371 t372 t373 t374 t375) else (estoverslaw26_FaultplanPrivate.j3 kj15 a0_14 t376 x20_2 t369 t359 t360 t361 t362 t363 t364 t365 t366 t367 t368 t369 t370 t371 t372 t373 t374 t375)) else (if t352 = 7 then (estoverslaw26_FaultplanPrivate.j3 kj15 a0_14 t376 x20_2 true t359 t360 t361 t362 t363 t364 t365 t366 t367 t368 t369 t370 t371 t372 t373 t374 t375) else (if (t373 != a0_14) = true then (estoverslaw26_FaultplanPrivate.j3 kj15 a0_14 t376 x20_2 true t359 t360 t361 t362 t363 t364 t365 t366 t367 t368 t369 t370 t371 t372 t373 t374 t375) else (estoverslaw26_FaultplanPrivate.j3 kj15 a0_14 t376 x20_2 false t359 t360 t361 t362 t363 t364 t365 t366 t367 t368 t369 t370 t371 t372 t373 t374 t375)))) = some r := by rw [if_neg (show ¬ (false = true) by decide)] at H; exact H
                    clear H
                    have H := H1
                    clear H1
                    have HC30 := Aside0.mk H
                    clear H
                    go_upto_region 10 with (fail)
                    go_cut [65] (fun v65 wc => ∃ (kq : Nat) (x65_29 : Bool), v65 = .bool x65_29 ∧ Aside0 (estoverslaw26_FaultplanPrivate.j3 kq a0_14 t376 x20_2 x65_29 t359 t360 t361 t362 t363 t364 t365 t366 t367 t368 t369 t370 t371 t372 t373 t374 t375 = some r) ∧ Aside0 (kq ≤ kj15) ∧ Aside0 (wc.heap[gb349]? = some (.cells #[.bool x350000_2, .bool x350001_2, .int .i64 x350002_2, .bool x350003_2, .bool x350004_2, .bool x350005_2, .bool x350006_2, .int .i64 x350007_2, .bool x350008_2, .bool x350009_2, .bool x350010_2, .bool x350011_2, .bool x350012_2, .bool x350013_2, .bool x350014_2, .bool x350015_2, .int .i64 x350016_2] 23 (0, 0))) ∧ Aside0 (wc.heap[gb358]? = some (.cells #[.int .i64 t352, .int .i64 t353, .int .i64 t354, .int .i64 t355, .int .i64 t356] 28 (0, 0))) ∧ Aside0 (wc.heap[gb378]? = some (.cells #[.bool t359, .bool t360, .int .i64 t361, .bool t362, .bool t363, .bool t364, .bool t365, .int .i64 t366, .bool t367, .bool t368, .bool t369, .bool t370, .bool t371, .bool t372, .bool t373, .bool t374, .int .i64 t375] 23 (0, 0))) ∧ Aside0 (Below w.heap.size w wc))
                    case first =>
                      have H := HC30.out
                      clear HC30
                      by_cases c31 : x350003_2 = true
                      · subst c31
                        have H1 : (if t352 = 9 then (estoverslaw26_FaultplanPrivate.j3 kj15 a0_14 t376 x20_2 true t359 t360 t361 t362 t363 t364 t365 t366 t367 t368 t369 t370 t371 t372 t373 t374 t375) else (estoverslaw26_FaultplanPrivate.j3 kj15 a0_14 t376 x20_2 t369 t359 t360 t361 t362 t363 t364 t365 t366 t367 t368 t369 t370 t371 t372 t373 t374 t375)) = some r := by rw [if_pos rfl] at H; exact H
                        clear H
                        have H := H1
                        clear H1
                        by_cases c32 : t352 = 9
                        · rw [if_pos c32] at H
                          have c32b0 : (t352 == 9) = true := beq_iff_eq.mpr c32
                          have c32b1 : (t352 != 9) = false := bne_eq_false_iff_eq.mpr c32
                          clear c32
                          (first | rw [c32b0] | (simp only [i64_w, i32_w]; rw [c32b0]) | skip)
                          have H' := Aside0.mk H
                          clear H
                          have hnb33 := NB349_358.out
                          have hnc33 := NB358_349.out
                          have hnb34 := NB349_378.out
                          have hnc34 := NB378_349.out
                          have hcz35_0 : wc.cell? ⟨gb349, 0, none⟩ = some (.bool x350000_2) := (blk_cell BK349.out 0).trans rfl
                          have hcz35_1 : wc.cell? ⟨gb349, 1, none⟩ = some (.bool x350001_2) := (blk_cell BK349.out 1).trans rfl
                          have hcz35_2 : wc.cell? ⟨gb349, 2, none⟩ = some (.int .i64 x350002_2) := (blk_cell BK349.out 2).trans rfl
                          have hcz35_3 : wc.cell? ⟨gb349, 3, none⟩ = some (.bool true) := (blk_cell BK349.out 3).trans rfl
                          have hcz35_4 : wc.cell? ⟨gb349, 4, none⟩ = some (.bool x350004_2) := (blk_cell BK349.out 4).trans rfl
                          have hcz35_5 : wc.cell? ⟨gb349, 5, none⟩ = some (.bool x350005_2) := (blk_cell BK349.out 5).trans rfl
                          have hcz35_6 : wc.cell? ⟨gb349, 6, none⟩ = some (.bool x350006_2) := (blk_cell BK349.out 6).trans rfl
                          have hcz35_7 : wc.cell? ⟨gb349, 7, none⟩ = some (.int .i64 x350007_2) := (blk_cell BK349.out 7).trans rfl
                          have hcz35_8 : wc.cell? ⟨gb349, 8, none⟩ = some (.bool x350008_2) := (blk_cell BK349.out 8).trans rfl
                          have hcz35_9 : wc.cell? ⟨gb349, 9, none⟩ = some (.bool x350009_2) := (blk_cell BK349.out 9).trans rfl
                          have hcz35_10 : wc.cell? ⟨gb349, 10, none⟩ = some (.bool x350010_2) := (blk_cell BK349.out 10).trans rfl
                          have hcz35_11 : wc.cell? ⟨gb349, 11, none⟩ = some (.bool x350011_2) := (blk_cell BK349.out 11).trans rfl
                          have hcz35_12 : wc.cell? ⟨gb349, 12, none⟩ = some (.bool x350012_2) := (blk_cell BK349.out 12).trans rfl
                          have hcz35_13 : wc.cell? ⟨gb349, 13, none⟩ = some (.bool x350013_2) := (blk_cell BK349.out 13).trans rfl
                          have hcz35_14 : wc.cell? ⟨gb349, 14, none⟩ = some (.bool x350014_2) := (blk_cell BK349.out 14).trans rfl
                          have hcz35_15 : wc.cell? ⟨gb349, 15, none⟩ = some (.bool x350015_2) := (blk_cell BK349.out 15).trans rfl
                          have hcz35_16 : wc.cell? ⟨gb349, 16, none⟩ = some (.int .i64 x350016_2) := (blk_cell BK349.out 16).trans rfl
                          have hfz35_0 := blk_frozen BK349.out 0
                          have hfz35_1 := blk_frozen BK349.out 1
                          have hfz35_2 := blk_frozen BK349.out 2
                          have hfz35_3 := blk_frozen BK349.out 3
                          have hfz35_4 := blk_frozen BK349.out 4
                          have hfz35_5 := blk_frozen BK349.out 5
                          have hfz35_6 := blk_frozen BK349.out 6
                          have hfz35_7 := blk_frozen BK349.out 7
                          have hfz35_8 := blk_frozen BK349.out 8
                          have hfz35_9 := blk_frozen BK349.out 9
                          have hfz35_10 := blk_frozen BK349.out 10
                          have hfz35_11 := blk_frozen BK349.out 11
                          have hfz35_12 := blk_frozen BK349.out 12
                          have hfz35_13 := blk_frozen BK349.out 13
                          have hfz35_14 := blk_frozen BK349.out 14
                          have hfz35_15 := blk_frozen BK349.out 15
                          have hfz35_16 := blk_frozen BK349.out 16
                          have hnb36 := NB358_378.out
                          have hnc36 := NB378_358.out
                          have hcz37_0 : wc.cell? ⟨gb358, 0, none⟩ = some (.int .i64 t352) := (blk_cell BK358.out 0).trans rfl
                          have hcz37_1 : wc.cell? ⟨gb358, 1, none⟩ = some (.int .i64 t353) := (blk_cell BK358.out 1).trans rfl
                          have hcz37_2 : wc.cell? ⟨gb358, 2, none⟩ = some (.int .i64 t354) := (blk_cell BK358.out 2).trans rfl
                          have hcz37_3 : wc.cell? ⟨gb358, 3, none⟩ = some (.int .i64 t355) := (blk_cell BK358.out 3).trans rfl
                          have hcz37_4 : wc.cell? ⟨gb358, 4, none⟩ = some (.int .i64 t356) := (blk_cell BK358.out 4).trans rfl
                          have hfz37_0 := blk_frozen BK358.out 0
                          have hfz37_1 := blk_frozen BK358.out 1
                          have hfz37_2 := blk_frozen BK358.out 2
                          have hfz37_3 := blk_frozen BK358.out 3
                          have hfz37_4 := blk_frozen BK358.out 4
                          go_wp2
                          go_meet
                          case rel => exact ⟨_, (true), (by first | rfl | (simp; done) | (simp [*]; done)), H', ⟨by have := HJ1.out; have := HK2.out; have := HJ15.out; first | omega | exact Nat.le_refl _⟩, ⟨by (with_reducible repeat (first | refine blk_drewN ?_ _ | refine blk_drew ?_ | refine blk_alloc ?_ _)); exact BK349.out⟩, ⟨by (with_reducible repeat (first | refine blk_drewN ?_ _ | refine blk_drew ?_ | refine blk_alloc ?_ _)); exact BK358.out⟩, ⟨by (with_reducible repeat (first | refine blk_drewN ?_ _ | refine blk_drew ?_ | refine blk_alloc ?_ _)); exact BK378.out⟩, ⟨by repeat (first | (with_reducible first | exact HB.out | apply below_alloc | apply pw_below_drewN | apply below_drew1 | refine below_set ?_ GE349.out | refine below_set ?_ GE358.out | refine below_set ?_ GE378.out) | exact HB.out)⟩⟩
                        · rw [if_neg c32] at H
                          have c32b0 : (t352 == 9) = false := beq_eq_false_iff_ne.mpr c32
                          have c32b1 : (t352 != 9) = true := bne_iff_ne.mpr c32
                          (first | rw [c32b0] | (simp only [i64_w, i32_w]; rw [c32b0]) | skip)
                          have H' := Aside0.mk H
                          clear H
                          have hnb38 := NB349_358.out
                          have hnc38 := NB358_349.out
                          have hnb39 := NB349_378.out
                          have hnc39 := NB378_349.out
                          have hcz40_0 : wc.cell? ⟨gb349, 0, none⟩ = some (.bool x350000_2) := (blk_cell BK349.out 0).trans rfl
                          have hcz40_1 : wc.cell? ⟨gb349, 1, none⟩ = some (.bool x350001_2) := (blk_cell BK349.out 1).trans rfl
                          have hcz40_2 : wc.cell? ⟨gb349, 2, none⟩ = some (.int .i64 x350002_2) := (blk_cell BK349.out 2).trans rfl
                          have hcz40_3 : wc.cell? ⟨gb349, 3, none⟩ = some (.bool true) := (blk_cell BK349.out 3).trans rfl
                          have hcz40_4 : wc.cell? ⟨gb349, 4, none⟩ = some (.bool x350004_2) := (blk_cell BK349.out 4).trans rfl
                          have hcz40_5 : wc.cell? ⟨gb349, 5, none⟩ = some (.bool x350005_2) := (blk_cell BK349.out 5).trans rfl
                          have hcz40_6 : wc.cell? ⟨gb349, 6, none⟩ = some (.bool x350006_2) := (blk_cell BK349.out 6).trans rfl
                          have hcz40_7 : wc.cell? ⟨gb349, 7, none⟩ = some (.int .i64 x350007_2) := (blk_cell BK349.out 7).trans rfl
                          have hcz40_8 : wc.cell? ⟨gb349, 8, none⟩ = some (.bool x350008_2) := (blk_cell BK349.out 8).trans rfl
                          have hcz40_9 : wc.cell? ⟨gb349, 9, none⟩ = some (.bool x350009_2) := (blk_cell BK349.out 9).trans rfl
                          have hcz40_10 : wc.cell? ⟨gb349, 10, none⟩ = some (.bool x350010_2) := (blk_cell BK349.out 10).trans rfl
                          have hcz40_11 : wc.cell? ⟨gb349, 11, none⟩ = some (.bool x350011_2) := (blk_cell BK349.out 11).trans rfl
                          have hcz40_12 : wc.cell? ⟨gb349, 12, none⟩ = some (.bool x350012_2) := (blk_cell BK349.out 12).trans rfl
                          have hcz40_13 : wc.cell? ⟨gb349, 13, none⟩ = some (.bool x350013_2) := (blk_cell BK349.out 13).trans rfl
                          have hcz40_14 : wc.cell? ⟨gb349, 14, none⟩ = some (.bool x350014_2) := (blk_cell BK349.out 14).trans rfl
                          have hcz40_15 : wc.cell? ⟨gb349, 15, none⟩ = some (.bool x350015_2) := (blk_cell BK349.out 15).trans rfl
                          have hcz40_16 : wc.cell? ⟨gb349, 16, none⟩ = some (.int .i64 x350016_2) := (blk_cell BK349.out 16).trans rfl
                          have hfz40_0 := blk_frozen BK349.out 0
                          have hfz40_1 := blk_frozen BK349.out 1
                          have hfz40_2 := blk_frozen BK349.out 2
                          have hfz40_3 := blk_frozen BK349.out 3
                          have hfz40_4 := blk_frozen BK349.out 4
                          have hfz40_5 := blk_frozen BK349.out 5
                          have hfz40_6 := blk_frozen BK349.out 6
                          have hfz40_7 := blk_frozen BK349.out 7
                          have hfz40_8 := blk_frozen BK349.out 8
                          have hfz40_9 := blk_frozen BK349.out 9
                          have hfz40_10 := blk_frozen BK349.out 10
                          have hfz40_11 := blk_frozen BK349.out 11
                          have hfz40_12 := blk_frozen BK349.out 12
                          have hfz40_13 := blk_frozen BK349.out 13
                          have hfz40_14 := blk_frozen BK349.out 14
                          have hfz40_15 := blk_frozen BK349.out 15
                          have hfz40_16 := blk_frozen BK349.out 16
                          have hnb41 := NB358_378.out
                          have hnc41 := NB378_358.out
                          have hcz42_0 : wc.cell? ⟨gb358, 0, none⟩ = some (.int .i64 t352) := (blk_cell BK358.out 0).trans rfl
                          have hcz42_1 : wc.cell? ⟨gb358, 1, none⟩ = some (.int .i64 t353) := (blk_cell BK358.out 1).trans rfl
                          have hcz42_2 : wc.cell? ⟨gb358, 2, none⟩ = some (.int .i64 t354) := (blk_cell BK358.out 2).trans rfl
                          have hcz42_3 : wc.cell? ⟨gb358, 3, none⟩ = some (.int .i64 t355) := (blk_cell BK358.out 3).trans rfl
                          have hcz42_4 : wc.cell? ⟨gb358, 4, none⟩ = some (.int .i64 t356) := (blk_cell BK358.out 4).trans rfl
                          have hfz42_0 := blk_frozen BK358.out 0
                          have hfz42_1 := blk_frozen BK358.out 1
                          have hfz42_2 := blk_frozen BK358.out 2
                          have hfz42_3 := blk_frozen BK358.out 3
                          have hfz42_4 := blk_frozen BK358.out 4
                          have hcz43_0 : wc.cell? ⟨gb378, 0, none⟩ = some (.bool t359) := (blk_cell BK378.out 0).trans rfl
                          have hcz43_1 : wc.cell? ⟨gb378, 1, none⟩ = some (.bool t360) := (blk_cell BK378.out 1).trans rfl
                          have hcz43_2 : wc.cell? ⟨gb378, 2, none⟩ = some (.int .i64 t361) := (blk_cell BK378.out 2).trans rfl
                          have hcz43_3 : wc.cell? ⟨gb378, 3, none⟩ = some (.bool t362) := (blk_cell BK378.out 3).trans rfl
                          have hcz43_4 : wc.cell? ⟨gb378, 4, none⟩ = some (.bool t363) := (blk_cell BK378.out 4).trans rfl
                          have hcz43_5 : wc.cell? ⟨gb378, 5, none⟩ = some (.bool t364) := (blk_cell BK378.out 5).trans rfl
                          have hcz43_6 : wc.cell? ⟨gb378, 6, none⟩ = some (.bool t365) := (blk_cell BK378.out 6).trans rfl
                          have hcz43_7 : wc.cell? ⟨gb378, 7, none⟩ = some (.int .i64 t366) := (blk_cell BK378.out 7).trans rfl
                          have hcz43_8 : wc.cell? ⟨gb378, 8, none⟩ = some (.bool t367) := (blk_cell BK378.out 8).trans rfl
                          have hcz43_9 : wc.cell? ⟨gb378, 9, none⟩ = some (.bool t368) := (blk_cell BK378.out 9).trans rfl
                          have hcz43_10 : wc.cell? ⟨gb378, 10, none⟩ = some (.bool t369) := (blk_cell BK378.out 10).trans rfl
                          have hcz43_11 : wc.cell? ⟨gb378, 11, none⟩ = some (.bool t370) := (blk_cell BK378.out 11).trans rfl
                          have hcz43_12 : wc.cell? ⟨gb378, 12, none⟩ = some (.bool t371) := (blk_cell BK378.out 12).trans rfl
                          have hcz43_13 : wc.cell? ⟨gb378, 13, none⟩ = some (.bool t372) := (blk_cell BK378.out 13).trans rfl
                          have hcz43_14 : wc.cell? ⟨gb378, 14, none⟩ = some (.bool t373) := (blk_cell BK378.out 14).trans rfl
                          have hcz43_15 : wc.cell? ⟨gb378, 15, none⟩ = some (.bool t374) := (blk_cell BK378.out 15).trans rfl
                          have hcz43_16 : wc.cell? ⟨gb378, 16, none⟩ = some (.int .i64 t375) := (blk_cell BK378.out 16).trans rfl
                          have hfz43_0 := blk_frozen BK378.out 0
                          have hfz43_1 := blk_frozen BK378.out 1
                          have hfz43_2 := blk_frozen BK378.out 2
                          have hfz43_3 := blk_frozen BK378.out 3
                          have hfz43_4 := blk_frozen BK378.out 4
                          have hfz43_5 := blk_frozen BK378.out 5
                          have hfz43_6 := blk_frozen BK378.out 6
                          have hfz43_7 := blk_frozen BK378.out 7
                          have hfz43_8 := blk_frozen BK378.out 8
                          have hfz43_9 := blk_frozen BK378.out 9
                          have hfz43_10 := blk_frozen BK378.out 10
                          have hfz43_11 := blk_frozen BK378.out 11
                          have hfz43_12 := blk_frozen BK378.out 12
                          have hfz43_13 := blk_frozen BK378.out 13
                          have hfz43_14 := blk_frozen BK378.out 14
                          have hfz43_15 := blk_frozen BK378.out 15
                          have hfz43_16 := blk_frozen BK378.out 16
                          go_wp2
                          go_meet
                          case rel => exact ⟨_, (t369), (by first | rfl | (simp; done) | (simp [*]; done)), H', ⟨by have := HJ1.out; have := HK2.out; have := HJ15.out; first | omega | exact Nat.le_refl _⟩, ⟨by (with_reducible repeat (first | refine blk_drewN ?_ _ | refine blk_drew ?_ | refine blk_alloc ?_ _)); exact BK349.out⟩, ⟨by (with_reducible repeat (first | refine blk_drewN ?_ _ | refine blk_drew ?_ | refine blk_alloc ?_ _)); exact BK358.out⟩, ⟨by (with_reducible repeat (first | refine blk_drewN ?_ _ | refine blk_drew ?_ | refine blk_alloc ?_ _)); exact BK378.out⟩, ⟨by repeat (first | (with_reducible first | exact HB.out | apply below_alloc | apply pw_below_drewN | apply below_drew1 | refine below_set ?_ GE349.out | refine below_set ?_ GE358.out | refine below_set ?_ GE378.out) | exact HB.out)⟩⟩
                      · replace c31 := Bool.eq_false_iff.mpr c31
                        subst c31
                        have H1 : (if t352 = 7 then (estoverslaw26_FaultplanPrivate.j3 kj15 a0_14 t376 x20_2 true t359 t360 t361 t362 t363 t364 t365 t366 t367 t368 t369 t370 t371 t372 t373 t374 t375) else (if (t373 != a0_14) = true then (estoverslaw26_FaultplanPrivate.j3 kj15 a0_14 t376 x20_2 true t359 t360 t361 t362 t363 t364 t365 t366 t367 t368 t369 t370 t371 t372 t373 t374 t375) else (estoverslaw26_FaultplanPrivate.j3 kj15 a0_14 t376 x20_2 false t359 t360 t361 t362 t363 t364 t365 t366 t367 t368 t369 t370 t371 t372 t373 t374 t375))) = some r := by rw [if_neg (show ¬ (false = true) by decide)] at H; exact H
                        clear H
                        have H := H1
                        clear H1
                        by_cases c44 : t352 = 7
                        · rw [if_pos c44] at H
                          have c44b0 : (t352 == 7) = true := beq_iff_eq.mpr c44
                          have c44b1 : (t352 != 7) = false := bne_eq_false_iff_eq.mpr c44
                          clear c44
                          have H' := Aside0.mk H
                          clear H
                          have hnb45 := NB349_358.out
                          have hnc45 := NB358_349.out
                          have hnb46 := NB349_378.out
                          have hnc46 := NB378_349.out
                          have hcz47_0 : wc.cell? ⟨gb349, 0, none⟩ = some (.bool x350000_2) := (blk_cell BK349.out 0).trans rfl
                          have hcz47_1 : wc.cell? ⟨gb349, 1, none⟩ = some (.bool x350001_2) := (blk_cell BK349.out 1).trans rfl
                          have hcz47_2 : wc.cell? ⟨gb349, 2, none⟩ = some (.int .i64 x350002_2) := (blk_cell BK349.out 2).trans rfl
                          have hcz47_3 : wc.cell? ⟨gb349, 3, none⟩ = some (.bool false) := (blk_cell BK349.out 3).trans rfl
                          have hcz47_4 : wc.cell? ⟨gb349, 4, none⟩ = some (.bool x350004_2) := (blk_cell BK349.out 4).trans rfl
                          have hcz47_5 : wc.cell? ⟨gb349, 5, none⟩ = some (.bool x350005_2) := (blk_cell BK349.out 5).trans rfl
                          have hcz47_6 : wc.cell? ⟨gb349, 6, none⟩ = some (.bool x350006_2) := (blk_cell BK349.out 6).trans rfl
                          have hcz47_7 : wc.cell? ⟨gb349, 7, none⟩ = some (.int .i64 x350007_2) := (blk_cell BK349.out 7).trans rfl
                          have hcz47_8 : wc.cell? ⟨gb349, 8, none⟩ = some (.bool x350008_2) := (blk_cell BK349.out 8).trans rfl
                          have hcz47_9 : wc.cell? ⟨gb349, 9, none⟩ = some (.bool x350009_2) := (blk_cell BK349.out 9).trans rfl
                          have hcz47_10 : wc.cell? ⟨gb349, 10, none⟩ = some (.bool x350010_2) := (blk_cell BK349.out 10).trans rfl
                          have hcz47_11 : wc.cell? ⟨gb349, 11, none⟩ = some (.bool x350011_2) := (blk_cell BK349.out 11).trans rfl
                          have hcz47_12 : wc.cell? ⟨gb349, 12, none⟩ = some (.bool x350012_2) := (blk_cell BK349.out 12).trans rfl
                          have hcz47_13 : wc.cell? ⟨gb349, 13, none⟩ = some (.bool x350013_2) := (blk_cell BK349.out 13).trans rfl
                          have hcz47_14 : wc.cell? ⟨gb349, 14, none⟩ = some (.bool x350014_2) := (blk_cell BK349.out 14).trans rfl
                          have hcz47_15 : wc.cell? ⟨gb349, 15, none⟩ = some (.bool x350015_2) := (blk_cell BK349.out 15).trans rfl
                          have hcz47_16 : wc.cell? ⟨gb349, 16, none⟩ = some (.int .i64 x350016_2) := (blk_cell BK349.out 16).trans rfl
                          have hfz47_0 := blk_frozen BK349.out 0
                          have hfz47_1 := blk_frozen BK349.out 1
                          have hfz47_2 := blk_frozen BK349.out 2
                          have hfz47_3 := blk_frozen BK349.out 3
                          have hfz47_4 := blk_frozen BK349.out 4
                          have hfz47_5 := blk_frozen BK349.out 5
                          have hfz47_6 := blk_frozen BK349.out 6
                          have hfz47_7 := blk_frozen BK349.out 7
                          have hfz47_8 := blk_frozen BK349.out 8
                          have hfz47_9 := blk_frozen BK349.out 9
                          have hfz47_10 := blk_frozen BK349.out 10
                          have hfz47_11 := blk_frozen BK349.out 11
                          have hfz47_12 := blk_frozen BK349.out 12
                          have hfz47_13 := blk_frozen BK349.out 13
                          have hfz47_14 := blk_frozen BK349.out 14
                          have hfz47_15 := blk_frozen BK349.out 15
                          have hfz47_16 := blk_frozen BK349.out 16
                          have hnb48 := NB358_378.out
                          have hnc48 := NB378_358.out
                          have hcz49_0 : wc.cell? ⟨gb358, 0, none⟩ = some (.int .i64 t352) := (blk_cell BK358.out 0).trans rfl
                          have hcz49_1 : wc.cell? ⟨gb358, 1, none⟩ = some (.int .i64 t353) := (blk_cell BK358.out 1).trans rfl
                          have hcz49_2 : wc.cell? ⟨gb358, 2, none⟩ = some (.int .i64 t354) := (blk_cell BK358.out 2).trans rfl
                          have hcz49_3 : wc.cell? ⟨gb358, 3, none⟩ = some (.int .i64 t355) := (blk_cell BK358.out 3).trans rfl
                          have hcz49_4 : wc.cell? ⟨gb358, 4, none⟩ = some (.int .i64 t356) := (blk_cell BK358.out 4).trans rfl
                          have hfz49_0 := blk_frozen BK358.out 0
                          have hfz49_1 := blk_frozen BK358.out 1
                          have hfz49_2 := blk_frozen BK358.out 2
                          have hfz49_3 := blk_frozen BK358.out 3
                          have hfz49_4 := blk_frozen BK358.out 4
                          go_wp2
                          go_meet
                          case rel => exact ⟨_, (true), (by first | rfl | (simp; done) | (simp [*]; done)), H', ⟨by have := HJ1.out; have := HK2.out; have := HJ15.out; first | omega | exact Nat.le_refl _⟩, ⟨by (with_reducible repeat (first | refine blk_drewN ?_ _ | refine blk_drew ?_ | refine blk_alloc ?_ _)); exact BK349.out⟩, ⟨by (with_reducible repeat (first | refine blk_drewN ?_ _ | refine blk_drew ?_ | refine blk_alloc ?_ _)); exact BK358.out⟩, ⟨by (with_reducible repeat (first | refine blk_drewN ?_ _ | refine blk_drew ?_ | refine blk_alloc ?_ _)); exact BK378.out⟩, ⟨by repeat (first | (with_reducible first | exact HB.out | apply below_alloc | apply pw_below_drewN | apply below_drew1 | refine below_set ?_ GE349.out | refine below_set ?_ GE358.out | refine below_set ?_ GE378.out) | exact HB.out)⟩⟩
                        · rw [if_neg c44] at H
                          have c44b0 : (t352 == 7) = false := beq_eq_false_iff_ne.mpr c44
                          have c44b1 : (t352 != 7) = true := bne_iff_ne.mpr c44
                          by_cases c50 : (t373 != a0_14) = true
                          · rw [if_pos c50] at H
                            have c50b0 : (t373 != a0_14) = true := c50
                            (try (have c50b1 : decide (t373 = a0_14) = false := by simpa using c50))
                            (try (have c50b2 : (t373 == a0_14) = false := by simpa using c50))
                            (try (have c50b3 : ¬ (t373 = a0_14) := by simpa using c50))
                            clear c50
                            have H' := Aside0.mk H
                            clear H
                            have hnb51 := NB349_358.out
                            have hnc51 := NB358_349.out
                            have hnb52 := NB349_378.out
                            have hnc52 := NB378_349.out
                            have hcz53_0 : wc.cell? ⟨gb349, 0, none⟩ = some (.bool x350000_2) := (blk_cell BK349.out 0).trans rfl
                            have hcz53_1 : wc.cell? ⟨gb349, 1, none⟩ = some (.bool x350001_2) := (blk_cell BK349.out 1).trans rfl
                            have hcz53_2 : wc.cell? ⟨gb349, 2, none⟩ = some (.int .i64 x350002_2) := (blk_cell BK349.out 2).trans rfl
                            have hcz53_3 : wc.cell? ⟨gb349, 3, none⟩ = some (.bool false) := (blk_cell BK349.out 3).trans rfl
                            have hcz53_4 : wc.cell? ⟨gb349, 4, none⟩ = some (.bool x350004_2) := (blk_cell BK349.out 4).trans rfl
                            have hcz53_5 : wc.cell? ⟨gb349, 5, none⟩ = some (.bool x350005_2) := (blk_cell BK349.out 5).trans rfl
                            have hcz53_6 : wc.cell? ⟨gb349, 6, none⟩ = some (.bool x350006_2) := (blk_cell BK349.out 6).trans rfl
                            have hcz53_7 : wc.cell? ⟨gb349, 7, none⟩ = some (.int .i64 x350007_2) := (blk_cell BK349.out 7).trans rfl
                            have hcz53_8 : wc.cell? ⟨gb349, 8, none⟩ = some (.bool x350008_2) := (blk_cell BK349.out 8).trans rfl
                            have hcz53_9 : wc.cell? ⟨gb349, 9, none⟩ = some (.bool x350009_2) := (blk_cell BK349.out 9).trans rfl
                            have hcz53_10 : wc.cell? ⟨gb349, 10, none⟩ = some (.bool x350010_2) := (blk_cell BK349.out 10).trans rfl
                            have hcz53_11 : wc.cell? ⟨gb349, 11, none⟩ = some (.bool x350011_2) := (blk_cell BK349.out 11).trans rfl
                            have hcz53_12 : wc.cell? ⟨gb349, 12, none⟩ = some (.bool x350012_2) := (blk_cell BK349.out 12).trans rfl
                            have hcz53_13 : wc.cell? ⟨gb349, 13, none⟩ = some (.bool x350013_2) := (blk_cell BK349.out 13).trans rfl
                            have hcz53_14 : wc.cell? ⟨gb349, 14, none⟩ = some (.bool x350014_2) := (blk_cell BK349.out 14).trans rfl
                            have hcz53_15 : wc.cell? ⟨gb349, 15, none⟩ = some (.bool x350015_2) := (blk_cell BK349.out 15).trans rfl
                            have hcz53_16 : wc.cell? ⟨gb349, 16, none⟩ = some (.int .i64 x350016_2) := (blk_cell BK349.out 16).trans rfl
                            have hfz53_0 := blk_frozen BK349.out 0
                            have hfz53_1 := blk_frozen BK349.out 1
                            have hfz53_2 := blk_frozen BK349.out 2
                            have hfz53_3 := blk_frozen BK349.out 3
                            have hfz53_4 := blk_frozen BK349.out 4
                            have hfz53_5 := blk_frozen BK349.out 5
                            have hfz53_6 := blk_frozen BK349.out 6
                            have hfz53_7 := blk_frozen BK349.out 7
                            have hfz53_8 := blk_frozen BK349.out 8
                            have hfz53_9 := blk_frozen BK349.out 9
                            have hfz53_10 := blk_frozen BK349.out 10
                            have hfz53_11 := blk_frozen BK349.out 11
                            have hfz53_12 := blk_frozen BK349.out 12
                            have hfz53_13 := blk_frozen BK349.out 13
                            have hfz53_14 := blk_frozen BK349.out 14
                            have hfz53_15 := blk_frozen BK349.out 15
                            have hfz53_16 := blk_frozen BK349.out 16
                            have hnb54 := NB358_378.out
                            have hnc54 := NB378_358.out
                            have hcz55_0 : wc.cell? ⟨gb358, 0, none⟩ = some (.int .i64 t352) := (blk_cell BK358.out 0).trans rfl
                            have hcz55_1 : wc.cell? ⟨gb358, 1, none⟩ = some (.int .i64 t353) := (blk_cell BK358.out 1).trans rfl
                            have hcz55_2 : wc.cell? ⟨gb358, 2, none⟩ = some (.int .i64 t354) := (blk_cell BK358.out 2).trans rfl
                            have hcz55_3 : wc.cell? ⟨gb358, 3, none⟩ = some (.int .i64 t355) := (blk_cell BK358.out 3).trans rfl
                            have hcz55_4 : wc.cell? ⟨gb358, 4, none⟩ = some (.int .i64 t356) := (blk_cell BK358.out 4).trans rfl
                            have hfz55_0 := blk_frozen BK358.out 0
                            have hfz55_1 := blk_frozen BK358.out 1
                            have hfz55_2 := blk_frozen BK358.out 2
                            have hfz55_3 := blk_frozen BK358.out 3
                            have hfz55_4 := blk_frozen BK358.out 4
                            have hcz56_0 : wc.cell? ⟨gb378, 0, none⟩ = some (.bool t359) := (blk_cell BK378.out 0).trans rfl
                            have hcz56_1 : wc.cell? ⟨gb378, 1, none⟩ = some (.bool t360) := (blk_cell BK378.out 1).trans rfl
                            have hcz56_2 : wc.cell? ⟨gb378, 2, none⟩ = some (.int .i64 t361) := (blk_cell BK378.out 2).trans rfl
                            have hcz56_3 : wc.cell? ⟨gb378, 3, none⟩ = some (.bool t362) := (blk_cell BK378.out 3).trans rfl
                            have hcz56_4 : wc.cell? ⟨gb378, 4, none⟩ = some (.bool t363) := (blk_cell BK378.out 4).trans rfl
                            have hcz56_5 : wc.cell? ⟨gb378, 5, none⟩ = some (.bool t364) := (blk_cell BK378.out 5).trans rfl
                            have hcz56_6 : wc.cell? ⟨gb378, 6, none⟩ = some (.bool t365) := (blk_cell BK378.out 6).trans rfl
                            have hcz56_7 : wc.cell? ⟨gb378, 7, none⟩ = some (.int .i64 t366) := (blk_cell BK378.out 7).trans rfl
                            have hcz56_8 : wc.cell? ⟨gb378, 8, none⟩ = some (.bool t367) := (blk_cell BK378.out 8).trans rfl
                            have hcz56_9 : wc.cell? ⟨gb378, 9, none⟩ = some (.bool t368) := (blk_cell BK378.out 9).trans rfl
                            have hcz56_10 : wc.cell? ⟨gb378, 10, none⟩ = some (.bool t369) := (blk_cell BK378.out 10).trans rfl
                            have hcz56_11 : wc.cell? ⟨gb378, 11, none⟩ = some (.bool t370) := (blk_cell BK378.out 11).trans rfl
                            have hcz56_12 : wc.cell? ⟨gb378, 12, none⟩ = some (.bool t371) := (blk_cell BK378.out 12).trans rfl
                            have hcz56_13 : wc.cell? ⟨gb378, 13, none⟩ = some (.bool t372) := (blk_cell BK378.out 13).trans rfl
                            have hcz56_14 : wc.cell? ⟨gb378, 14, none⟩ = some (.bool t373) := (blk_cell BK378.out 14).trans rfl
                            have hcz56_15 : wc.cell? ⟨gb378, 15, none⟩ = some (.bool t374) := (blk_cell BK378.out 15).trans rfl
                            have hcz56_16 : wc.cell? ⟨gb378, 16, none⟩ = some (.int .i64 t375) := (blk_cell BK378.out 16).trans rfl
                            have hfz56_0 := blk_frozen BK378.out 0
                            have hfz56_1 := blk_frozen BK378.out 1
                            have hfz56_2 := blk_frozen BK378.out 2
                            have hfz56_3 := blk_frozen BK378.out 3
                            have hfz56_4 := blk_frozen BK378.out 4
                            have hfz56_5 := blk_frozen BK378.out 5
                            have hfz56_6 := blk_frozen BK378.out 6
                            have hfz56_7 := blk_frozen BK378.out 7
                            have hfz56_8 := blk_frozen BK378.out 8
                            have hfz56_9 := blk_frozen BK378.out 9
                            have hfz56_10 := blk_frozen BK378.out 10
                            have hfz56_11 := blk_frozen BK378.out 11
                            have hfz56_12 := blk_frozen BK378.out 12
                            have hfz56_13 := blk_frozen BK378.out 13
                            have hfz56_14 := blk_frozen BK378.out 14
                            have hfz56_15 := blk_frozen BK378.out 15
                            have hfz56_16 := blk_frozen BK378.out 16
                            go_wp2
                            go_meet
                            case rel => exact ⟨_, (true), (by first | rfl | (simp; done) | (simp [*]; done)), H', ⟨by have := HJ1.out; have := HK2.out; have := HJ15.out; first | omega | exact Nat.le_refl _⟩, ⟨by (with_reducible repeat (first | refine blk_drewN ?_ _ | refine blk_drew ?_ | refine blk_alloc ?_ _)); exact BK349.out⟩, ⟨by (with_reducible repeat (first | refine blk_drewN ?_ _ | refine blk_drew ?_ | refine blk_alloc ?_ _)); exact BK358.out⟩, ⟨by (with_reducible repeat (first | refine blk_drewN ?_ _ | refine blk_drew ?_ | refine blk_alloc ?_ _)); exact BK378.out⟩, ⟨by repeat (first | (with_reducible first | exact HB.out | apply below_alloc | apply pw_below_drewN | apply below_drew1 | refine below_set ?_ GE349.out | refine below_set ?_ GE358.out | refine below_set ?_ GE378.out) | exact HB.out)⟩⟩
                          · rw [if_neg c50] at H
                            have c50b0 : (t373 != a0_14) = false := by simpa using c50
                            (try (have c50b1 : decide (t373 = a0_14) = true := by simpa using c50))
                            (try (have c50b2 : (t373 == a0_14) = true := by simpa using c50))
                            clear c50
                            have H' := Aside0.mk H
                            clear H
                            have hnb57 := NB349_358.out
                            have hnc57 := NB358_349.out
                            have hnb58 := NB349_378.out
                            have hnc58 := NB378_349.out
                            have hcz59_0 : wc.cell? ⟨gb349, 0, none⟩ = some (.bool x350000_2) := (blk_cell BK349.out 0).trans rfl
                            have hcz59_1 : wc.cell? ⟨gb349, 1, none⟩ = some (.bool x350001_2) := (blk_cell BK349.out 1).trans rfl
                            have hcz59_2 : wc.cell? ⟨gb349, 2, none⟩ = some (.int .i64 x350002_2) := (blk_cell BK349.out 2).trans rfl
                            have hcz59_3 : wc.cell? ⟨gb349, 3, none⟩ = some (.bool false) := (blk_cell BK349.out 3).trans rfl
                            have hcz59_4 : wc.cell? ⟨gb349, 4, none⟩ = some (.bool x350004_2) := (blk_cell BK349.out 4).trans rfl
                            have hcz59_5 : wc.cell? ⟨gb349, 5, none⟩ = some (.bool x350005_2) := (blk_cell BK349.out 5).trans rfl
                            have hcz59_6 : wc.cell? ⟨gb349, 6, none⟩ = some (.bool x350006_2) := (blk_cell BK349.out 6).trans rfl
                            have hcz59_7 : wc.cell? ⟨gb349, 7, none⟩ = some (.int .i64 x350007_2) := (blk_cell BK349.out 7).trans rfl
                            have hcz59_8 : wc.cell? ⟨gb349, 8, none⟩ = some (.bool x350008_2) := (blk_cell BK349.out 8).trans rfl
                            have hcz59_9 : wc.cell? ⟨gb349, 9, none⟩ = some (.bool x350009_2) := (blk_cell BK349.out 9).trans rfl
                            have hcz59_10 : wc.cell? ⟨gb349, 10, none⟩ = some (.bool x350010_2) := (blk_cell BK349.out 10).trans rfl
                            have hcz59_11 : wc.cell? ⟨gb349, 11, none⟩ = some (.bool x350011_2) := (blk_cell BK349.out 11).trans rfl
                            have hcz59_12 : wc.cell? ⟨gb349, 12, none⟩ = some (.bool x350012_2) := (blk_cell BK349.out 12).trans rfl
                            have hcz59_13 : wc.cell? ⟨gb349, 13, none⟩ = some (.bool x350013_2) := (blk_cell BK349.out 13).trans rfl
                            have hcz59_14 : wc.cell? ⟨gb349, 14, none⟩ = some (.bool x350014_2) := (blk_cell BK349.out 14).trans rfl
                            have hcz59_15 : wc.cell? ⟨gb349, 15, none⟩ = some (.bool x350015_2) := (blk_cell BK349.out 15).trans rfl
                            have hcz59_16 : wc.cell? ⟨gb349, 16, none⟩ = some (.int .i64 x350016_2) := (blk_cell BK349.out 16).trans rfl
                            have hfz59_0 := blk_frozen BK349.out 0
                            have hfz59_1 := blk_frozen BK349.out 1
                            have hfz59_2 := blk_frozen BK349.out 2
                            have hfz59_3 := blk_frozen BK349.out 3
                            have hfz59_4 := blk_frozen BK349.out 4
                            have hfz59_5 := blk_frozen BK349.out 5
                            have hfz59_6 := blk_frozen BK349.out 6
                            have hfz59_7 := blk_frozen BK349.out 7
                            have hfz59_8 := blk_frozen BK349.out 8
                            have hfz59_9 := blk_frozen BK349.out 9
                            have hfz59_10 := blk_frozen BK349.out 10
                            have hfz59_11 := blk_frozen BK349.out 11
                            have hfz59_12 := blk_frozen BK349.out 12
                            have hfz59_13 := blk_frozen BK349.out 13
                            have hfz59_14 := blk_frozen BK349.out 14
                            have hfz59_15 := blk_frozen BK349.out 15
                            have hfz59_16 := blk_frozen BK349.out 16
                            have hnb60 := NB358_378.out
                            have hnc60 := NB378_358.out
                            have hcz61_0 : wc.cell? ⟨gb358, 0, none⟩ = some (.int .i64 t352) := (blk_cell BK358.out 0).trans rfl
                            have hcz61_1 : wc.cell? ⟨gb358, 1, none⟩ = some (.int .i64 t353) := (blk_cell BK358.out 1).trans rfl
                            have hcz61_2 : wc.cell? ⟨gb358, 2, none⟩ = some (.int .i64 t354) := (blk_cell BK358.out 2).trans rfl
                            have hcz61_3 : wc.cell? ⟨gb358, 3, none⟩ = some (.int .i64 t355) := (blk_cell BK358.out 3).trans rfl
                            have hcz61_4 : wc.cell? ⟨gb358, 4, none⟩ = some (.int .i64 t356) := (blk_cell BK358.out 4).trans rfl
                            have hfz61_0 := blk_frozen BK358.out 0
                            have hfz61_1 := blk_frozen BK358.out 1
                            have hfz61_2 := blk_frozen BK358.out 2
                            have hfz61_3 := blk_frozen BK358.out 3
                            have hfz61_4 := blk_frozen BK358.out 4
                            have hcz62_0 : wc.cell? ⟨gb378, 0, none⟩ = some (.bool t359) := (blk_cell BK378.out 0).trans rfl
                            have hcz62_1 : wc.cell? ⟨gb378, 1, none⟩ = some (.bool t360) := (blk_cell BK378.out 1).trans rfl
                            have hcz62_2 : wc.cell? ⟨gb378, 2, none⟩ = some (.int .i64 t361) := (blk_cell BK378.out 2).trans rfl
                            have hcz62_3 : wc.cell? ⟨gb378, 3, none⟩ = some (.bool t362) := (blk_cell BK378.out 3).trans rfl
                            have hcz62_4 : wc.cell? ⟨gb378, 4, none⟩ = some (.bool t363) := (blk_cell BK378.out 4).trans rfl
                            have hcz62_5 : wc.cell? ⟨gb378, 5, none⟩ = some (.bool t364) := (blk_cell BK378.out 5).trans rfl
                            have hcz62_6 : wc.cell? ⟨gb378, 6, none⟩ = some (.bool t365) := (blk_cell BK378.out 6).trans rfl
                            have hcz62_7 : wc.cell? ⟨gb378, 7, none⟩ = some (.int .i64 t366) := (blk_cell BK378.out 7).trans rfl
                            have hcz62_8 : wc.cell? ⟨gb378, 8, none⟩ = some (.bool t367) := (blk_cell BK378.out 8).trans rfl
                            have hcz62_9 : wc.cell? ⟨gb378, 9, none⟩ = some (.bool t368) := (blk_cell BK378.out 9).trans rfl
                            have hcz62_10 : wc.cell? ⟨gb378, 10, none⟩ = some (.bool t369) := (blk_cell BK378.out 10).trans rfl
                            have hcz62_11 : wc.cell? ⟨gb378, 11, none⟩ = some (.bool t370) := (blk_cell BK378.out 11).trans rfl
                            have hcz62_12 : wc.cell? ⟨gb378, 12, none⟩ = some (.bool t371) := (blk_cell BK378.out 12).trans rfl
                            have hcz62_13 : wc.cell? ⟨gb378, 13, none⟩ = some (.bool t372) := (blk_cell BK378.out 13).trans rfl
                            have hcz62_14 : wc.cell? ⟨gb378, 14, none⟩ = some (.bool t373) := (blk_cell BK378.out 14).trans rfl
                            have hcz62_15 : wc.cell? ⟨gb378, 15, none⟩ = some (.bool t374) := (blk_cell BK378.out 15).trans rfl
                            have hcz62_16 : wc.cell? ⟨gb378, 16, none⟩ = some (.int .i64 t375) := (blk_cell BK378.out 16).trans rfl
                            have hfz62_0 := blk_frozen BK378.out 0
                            have hfz62_1 := blk_frozen BK378.out 1
                            have hfz62_2 := blk_frozen BK378.out 2
                            have hfz62_3 := blk_frozen BK378.out 3
                            have hfz62_4 := blk_frozen BK378.out 4
                            have hfz62_5 := blk_frozen BK378.out 5
                            have hfz62_6 := blk_frozen BK378.out 6
                            have hfz62_7 := blk_frozen BK378.out 7
                            have hfz62_8 := blk_frozen BK378.out 8
                            have hfz62_9 := blk_frozen BK378.out 9
                            have hfz62_10 := blk_frozen BK378.out 10
                            have hfz62_11 := blk_frozen BK378.out 11
                            have hfz62_12 := blk_frozen BK378.out 12
                            have hfz62_13 := blk_frozen BK378.out 13
                            have hfz62_14 := blk_frozen BK378.out 14
                            have hfz62_15 := blk_frozen BK378.out 15
                            have hfz62_16 := blk_frozen BK378.out 16
                            go_wp2
                            go_meet
                            case rel => exact ⟨_, (false), (by first | rfl | (simp; done) | (simp [*]; done)), H', ⟨by have := HJ1.out; have := HK2.out; have := HJ15.out; first | omega | exact Nat.le_refl _⟩, ⟨by (with_reducible repeat (first | refine blk_drewN ?_ _ | refine blk_drew ?_ | refine blk_alloc ?_ _)); exact BK349.out⟩, ⟨by (with_reducible repeat (first | refine blk_drewN ?_ _ | refine blk_drew ?_ | refine blk_alloc ?_ _)); exact BK358.out⟩, ⟨by (with_reducible repeat (first | refine blk_drewN ?_ _ | refine blk_drew ?_ | refine blk_alloc ?_ _)); exact BK378.out⟩, ⟨by repeat (first | (with_reducible first | exact HB.out | apply below_alloc | apply pw_below_drewN | apply below_drew1 | refine below_set ?_ GE349.out | refine below_set ?_ GE358.out | refine below_set ?_ GE378.out) | exact HB.out)⟩⟩
                    case rest =>
                      clear HC30
                      try clear c2
                      try clear p2
                      try clear c3
                      try clear c4
                      try clear c5
                      try clear c6
                      try clear c29
                      try clear c31
                      try clear c32
                      try clear c32b0
                      try clear c32b1
                      try clear c33
                      try clear c34
                      try clear c36
                      try clear c38
                      try clear c39
                      try clear c41
                      try clear c44
                      try clear c44b0
                      try clear c44b1
                      try clear c45
                      try clear c46
                      try clear c48
                      try clear c50
                      try clear c50b0
                      try clear c50b1
                      try clear c50b2
                      try clear c51
                      try clear c52
                      try clear c54
                      try clear c57
                      try clear c58
                      try clear c60
                      try clear hcz27_3
                      try clear hcz27_4
                      try clear hcz27_5
                      try clear hcz27_6
                      try clear hcz27_7
                      try clear hcz27_8
                      try clear hcz27_9
                      try clear hcz35_0
                      try clear hcz35_1
                      try clear hcz35_10
                      try clear hcz35_11
                      try clear hcz35_12
                      try clear hcz35_13
                      try clear hcz35_14
                      try clear hcz35_15
                      try clear hcz35_16
                      try clear hcz35_2
                      try clear hcz35_3
                      try clear hcz35_4
                      try clear hcz35_5
                      try clear hcz35_6
                      try clear hcz35_7
                      try clear hcz35_8
                      try clear hcz35_9
                      try clear hcz37_0
                      try clear hcz37_1
                      try clear hcz37_2
                      try clear hcz37_3
                      try clear hcz37_4
                      try clear hcz40_0
                      try clear hcz40_1
                      try clear hcz40_10
                      try clear hcz40_11
                      try clear hcz40_12
                      try clear hcz40_13
                      try clear hcz40_14
                      try clear hcz40_15
                      try clear hcz40_16
                      try clear hcz40_2
                      try clear hcz40_3
                      try clear hcz40_4
                      try clear hcz40_5
                      try clear hcz40_6
                      try clear hcz40_7
                      try clear hcz40_8
                      try clear hcz40_9
                      try clear hcz42_0
                      try clear hcz42_1
                      try clear hcz42_2
                      try clear hcz42_3
                      try clear hcz42_4
                      try clear hcz43_0
                      try clear hcz43_1
                      try clear hcz43_10
                      try clear hcz43_11
                      try clear hcz43_12
                      try clear hcz43_13
                      try clear hcz43_14
                      try clear hcz43_15
                      try clear hcz43_16
                      try clear hcz43_2
                      try clear hcz43_3
                      try clear hcz43_4
                      try clear hcz43_5
                      try clear hcz43_6
                      try clear hcz43_7
                      try clear hcz43_8
                      try clear hcz43_9
                      try clear hcz47_0
                      try clear hcz47_1
                      try clear hcz47_10
                      try clear hcz47_11
                      try clear hcz47_12
                      try clear hcz47_13
                      try clear hcz47_14
                      try clear hcz47_15
                      try clear hcz47_16
                      try clear hcz47_2
                      try clear hcz47_3
                      try clear hcz47_4
                      try clear hcz47_5
                      try clear hcz47_6
                      try clear hcz47_7
                      try clear hcz47_8
                      try clear hcz47_9
                      try clear hcz49_0
                      try clear hcz49_1
                      try clear hcz49_2
                      try clear hcz49_3
                      try clear hcz49_4
                      try clear hcz53_0
                      try clear hcz53_1
                      try clear hcz53_10
                      try clear hcz53_11
                      try clear hcz53_12
                      try clear hcz53_13
                      try clear hcz53_14
                      try clear hcz53_15
                      try clear hcz53_16
                      try clear hcz53_2
                      try clear hcz53_3
                      try clear hcz53_4
                      try clear hcz53_5
                      try clear hcz53_6
                      try clear hcz53_7
                      try clear hcz53_8
                      try clear hcz53_9
                      try clear hcz55_0
                      try clear hcz55_1
                      try clear hcz55_2
                      try clear hcz55_3
                      try clear hcz55_4
                      try clear hcz56_0
                      try clear hcz56_1
                      try clear hcz56_10
                      try clear hcz56_11
                      try clear hcz56_12
                      try clear hcz56_13
                      try clear hcz56_14
                      try clear hcz56_15
                      try clear hcz56_16
                      try clear hcz56_2
                      try clear hcz56_3
                      try clear hcz56_4
                      try clear hcz56_5
                      try clear hcz56_6
                      try clear hcz56_7
                      try clear hcz56_8
                      try clear hcz56_9
                      try clear hcz59_0
                      try clear hcz59_1
                      try clear hcz59_10
                      try clear hcz59_11
                      try clear hcz59_12
                      try clear hcz59_13
                      try clear hcz59_14
                      try clear hcz59_15
                      try clear hcz59_16
                      try clear hcz59_2
                      try clear hcz59_3
                      try clear hcz59_4
                      try clear hcz59_5
                      try clear hcz59_6
                      try clear hcz59_7
                      try clear hcz59_8
                      try clear hcz59_9
                      try clear hcz61_0
                      try clear hcz61_1
                      try clear hcz61_2
                      try clear hcz61_3
                      try clear hcz61_4
                      try clear hcz62_0
                      try clear hcz62_1
                      try clear hcz62_10
                      try clear hcz62_11
                      try clear hcz62_12
                      try clear hcz62_13
                      try clear hcz62_14
                      try clear hcz62_15
                      try clear hcz62_16
                      try clear hcz62_2
                      try clear hcz62_3
                      try clear hcz62_4
                      try clear hcz62_5
                      try clear hcz62_6
                      try clear hcz62_7
                      try clear hcz62_8
                      try clear hcz62_9
                      try clear hcz6_0
                      try clear hcz6_1
                      try clear hcz6_10
                      try clear hcz6_11
                      try clear hcz6_12
                      try clear hcz6_13
                      try clear hcz6_14
                      try clear hcz6_15
                      try clear hcz6_16
                      try clear hcz6_2
                      try clear hcz6_3
                      try clear hcz6_4
                      try clear hcz6_5
                      try clear hcz6_6
                      try clear hcz6_7
                      try clear hcz6_8
                      try clear hcz6_9
                      try clear hcz8_0
                      try clear hcz8_1
                      try clear hcz8_10
                      try clear hcz8_11
                      try clear hcz8_12
                      try clear hcz8_13
                      try clear hcz8_14
                      try clear hcz8_15
                      try clear hcz8_16
                      try clear hcz8_2
                      try clear hcz8_3
                      try clear hcz8_4
                      try clear hcz8_5
                      try clear hcz8_6
                      try clear hcz8_7
                      try clear hcz8_8
                      try clear hcz8_9
                      try clear hfz12_0
                      try clear hfz12_1
                      try clear hfz12_10
                      try clear hfz12_11
                      try clear hfz12_12
                      try clear hfz12_13
                      try clear hfz12_14
                      try clear hfz12_15
                      try clear hfz12_16
                      try clear hfz12_2
                      try clear hfz12_3
                      try clear hfz12_4
                      try clear hfz12_5
                      try clear hfz12_6
                      try clear hfz12_7
                      try clear hfz12_8
                      try clear hfz12_9
                      try clear hfz17_0
                      try clear hfz17_1
                      try clear hfz17_10
                      try clear hfz17_11
                      try clear hfz17_12
                      try clear hfz17_13
                      try clear hfz17_14
                      try clear hfz17_15
                      try clear hfz17_16
                      try clear hfz17_2
                      try clear hfz17_3
                      try clear hfz17_4
                      try clear hfz17_5
                      try clear hfz17_6
                      try clear hfz17_7
                      try clear hfz17_8
                      try clear hfz17_9
                      try clear hfz21_0
                      try clear hfz21_1
                      try clear hfz21_2
                      try clear hfz21_3
                      try clear hfz21_4
                      try clear hfz22_0
                      try clear hfz22_1
                      try clear hfz22_10
                      try clear hfz22_11
                      try clear hfz22_12
                      try clear hfz22_13
                      try clear hfz22_14
                      try clear hfz22_15
                      try clear hfz22_16
                      try clear hfz22_2
                      try clear hfz22_3
                      try clear hfz22_4
                      try clear hfz22_5
                      try clear hfz22_6
                      try clear hfz22_7
                      try clear hfz22_8
                      try clear hfz22_9
                      try clear hfz27_0
                      try clear hfz27_1
                      try clear hfz27_10
                      try clear hfz27_11
                      try clear hfz27_12
                      try clear hfz27_13
                      try clear hfz27_14
                      try clear hfz27_15
                      try clear hfz27_16
                      try clear hfz27_2
                      try clear hfz27_3
                      try clear hfz27_4
                      try clear hfz27_5
                      try clear hfz27_6
                      try clear hfz27_7
                      try clear hfz27_8
                      try clear hfz27_9
                      try clear hfz35_0
                      try clear hfz35_1
                      try clear hfz35_10
                      try clear hfz35_11
                      try clear hfz35_12
                      try clear hfz35_13
                      try clear hfz35_14
                      try clear hfz35_15
                      try clear hfz35_16
                      try clear hfz35_2
                      try clear hfz35_3
                      try clear hfz35_4
                      try clear hfz35_5
                      try clear hfz35_6
                      try clear hfz35_7
                      try clear hfz35_8
                      try clear hfz35_9
                      try clear hfz37_0
                      try clear hfz37_1
                      try clear hfz37_2
                      try clear hfz37_3
                      try clear hfz37_4
                      try clear hfz40_0
                      try clear hfz40_1
                      try clear hfz40_10
                      try clear hfz40_11
                      try clear hfz40_12
                      try clear hfz40_13
                      try clear hfz40_14
                      try clear hfz40_15
                      try clear hfz40_16
                      try clear hfz40_2
                      try clear hfz40_3
                      try clear hfz40_4
                      try clear hfz40_5
                      try clear hfz40_6
                      try clear hfz40_7
                      try clear hfz40_8
                      try clear hfz40_9
                      try clear hfz42_0
                      try clear hfz42_1
                      try clear hfz42_2
                      try clear hfz42_3
                      try clear hfz42_4
                      try clear hfz43_0
                      try clear hfz43_1
                      try clear hfz43_10
                      try clear hfz43_11
                      try clear hfz43_12
                      try clear hfz43_13
                      try clear hfz43_14
                      try clear hfz43_15
                      try clear hfz43_16
                      try clear hfz43_2
                      try clear hfz43_3
                      try clear hfz43_4
                      try clear hfz43_5
                      try clear hfz43_6
                      try clear hfz43_7
                      try clear hfz43_8
                      try clear hfz43_9
                      try clear hfz47_0
                      try clear hfz47_1
                      try clear hfz47_10
                      try clear hfz47_11
                      try clear hfz47_12
                      try clear hfz47_13
                      try clear hfz47_14
                      try clear hfz47_15
                      try clear hfz47_16
                      try clear hfz47_2
                      try clear hfz47_3
                      try clear hfz47_4
                      try clear hfz47_5
                      try clear hfz47_6
                      try clear hfz47_7
                      try clear hfz47_8
                      try clear hfz47_9
                      try clear hfz49_0
                      try clear hfz49_1
                      try clear hfz49_2
                      try clear hfz49_3
                      try clear hfz49_4
                      try clear hfz53_0
                      try clear hfz53_1
                      try clear hfz53_10
                      try clear hfz53_11
                      try clear hfz53_12
                      try clear hfz53_13
                      try clear hfz53_14
                      try clear hfz53_15
                      try clear hfz53_16
                      try clear hfz53_2
                      try clear hfz53_3
                      try clear hfz53_4
                      try clear hfz53_5
                      try clear hfz53_6
                      try clear hfz53_7
                      try clear hfz53_8
                      try clear hfz53_9
                      try clear hfz55_0
                      try clear hfz55_1
                      try clear hfz55_2
                      try clear hfz55_3
                      try clear hfz55_4
                      try clear hfz56_0
                      try clear hfz56_1
                      try clear hfz56_10
                      try clear hfz56_11
                      try clear hfz56_12
                      try clear hfz56_13
                      try clear hfz56_14
                      try clear hfz56_15
                      try clear hfz56_16
                      try clear hfz56_2
                      try clear hfz56_3
                      try clear hfz56_4
                      try clear hfz56_5
                      try clear hfz56_6
                      try clear hfz56_7
                      try clear hfz56_8
                      try clear hfz56_9
                      try clear hfz59_0
                      try clear hfz59_1
                      try clear hfz59_10
                      try clear hfz59_11
                      try clear hfz59_12
                      try clear hfz59_13
                      try clear hfz59_14
                      try clear hfz59_15
                      try clear hfz59_16
                      try clear hfz59_2
                      try clear hfz59_3
                      try clear hfz59_4
                      try clear hfz59_5
                      try clear hfz59_6
                      try clear hfz59_7
                      try clear hfz59_8
                      try clear hfz59_9
                      try clear hfz61_0
                      try clear hfz61_1
                      try clear hfz61_2
                      try clear hfz61_3
                      try clear hfz61_4
                      try clear hfz62_0
                      try clear hfz62_1
                      try clear hfz62_10
                      try clear hfz62_11
                      try clear hfz62_12
                      try clear hfz62_13
                      try clear hfz62_14
                      try clear hfz62_15
                      try clear hfz62_16
                      try clear hfz62_2
                      try clear hfz62_3
                      try clear hfz62_4
                      try clear hfz62_5
                      try clear hfz62_6
                      try clear hfz62_7
                      try clear hfz62_8
                      try clear hfz62_9
                      try clear hfz6_0
                      try clear hfz6_1
                      try clear hfz6_10
                      try clear hfz6_11
                      try clear hfz6_12
                      try clear hfz6_13
                      try clear hfz6_14
                      try clear hfz6_15
                      try clear hfz6_16
                      try clear hfz6_2
                      try clear hfz6_3
                      try clear hfz6_4
                      try clear hfz6_5
                      try clear hfz6_6
                      try clear hfz6_7
                      try clear hfz6_8
                      try clear hfz6_9
                      try clear hfz8_0
                      try clear hfz8_1
                      try clear hfz8_10
                      try clear hfz8_11
                      try clear hfz8_12
                      try clear hfz8_13
                      try clear hfz8_14
                      try clear hfz8_15
                      try clear hfz8_16
                      try clear hfz8_2
                      try clear hfz8_3
                      try clear hfz8_4
                      try clear hfz8_5
                      try clear hfz8_6
                      try clear hfz8_7
                      try clear hfz8_8
                      try clear hfz8_9
                      try clear p2
                      obtain ⟨kq, x65_29, rfl, HA, HJ29, BK349, BK358, BK378, HB⟩ := hcut
                      cases kq with
                      | zero => exact absurd HA.out (by simp [estoverslaw26_FaultplanPrivate.j3])
                      | succ kj29 =>
                        have H := HA.out
                        clear HA
                        simp only [estoverslaw26_FaultplanPrivate.j3] at H
                        by_cases c63 : x65_29 = true
                        · subst c63
                          have H1 : (some false) = some r := by rw [if_pos rfl] at H; exact H
                          clear H
                          have H := H1
                          clear H1
                          obtain rfl := Option.some.inj H
                          go_wp2
                          go_ret
                          exact ⟨by first | rfl | (simp [errW_none, errW_some] <;> rfl) | (simp [*, errW_none, errW_some] <;> rfl), by repeat (first | (with_reducible first | exact HB.out | apply below_alloc | apply pw_below_drewN | apply below_drew1 | refine below_set ?_ GE349.out | refine below_set ?_ GE358.out | refine below_set ?_ GE378.out) | exact HB.out)⟩
                        · replace c63 := Bool.eq_false_iff.mpr c63
                          subst c63
                          have H1 : (if t376 = true then ((estoverslaw26_awake.f kj29).bind fun t379 => (some t379)) else (estoverslaw26_FaultplanPrivate.l0 kj29 a0_14 (wrap64 (x20_2 + 1)) t359 t360 t361 t362 t363 t364 t365 t366 t367 t368 t369 t370 t371 t372 t373 t374 t375)) = some r := by rw [if_neg (show ¬ (false = true) by decide)] at H; exact H
                          clear H
                          have H := H1
                          clear H1
                          by_cases c64 : t376 = true
                          · subst c64
                            have H1 : ((estoverslaw26_awake.f kj29).bind fun t379 => (some t379)) = some r := by rw [if_pos rfl] at H; exact H
                            clear H
                            have H := H1
                            clear H1
                            replace H := Option.bind_eq_some_iff.mp H
                            obtain ⟨t379, A650, H⟩ := H
                            replace H : (some t379) = some r := H
                            have A65 := Aside0.mk A650
                            clear A650
                            obtain rfl := Option.some.inj H
                            go_wp2_with (first | ((with_reducible refine gate_callee (f := 12) rfl ?_); refine goesL_ (some 67) rfl rfl Try.func12 (by kernel_rfl) rfl #[] rfl (by (try simp only [List.map_toArray, List.map_cons, List.map_nil]); first | done | rfl | (simp only [List.length_drop, List.length_take]; rfl)) ?_; (with_reducible refine (estoverslaw26_awake.calls kj29  t379 _ A65.out).mono ?_); rintro e w66 ⟨rfl, hb⟩; refine ⟨_, rfl, ?_⟩; have n0_ := Aside0.mk (blk_below (g := gb349) (o := .cells #[.bool x350000_2, .bool x350001_2, .int .i64 x350002_2, .bool x350003_2, .bool x350004_2, .bool x350005_2, .bool x350006_2, .int .i64 x350007_2, .bool x350008_2, .bool x350009_2, .bool x350010_2, .bool x350011_2, .bool x350012_2, .bool x350013_2, .bool x350014_2, .bool x350015_2, .int .i64 x350016_2] 23 (0, 0)) (by (with_reducible repeat (first | refine blk_drewN ?_ _ | refine blk_drew ?_ | refine blk_alloc ?_ _)); exact BK349.out) hb); have n1_ := Aside0.mk (blk_below (g := gb358) (o := .cells #[.int .i64 t352, .int .i64 t353, .int .i64 t354, .int .i64 t355, .int .i64 t356] 28 (0, 0)) (by (with_reducible repeat (first | refine blk_drewN ?_ _ | refine blk_drew ?_ | refine blk_alloc ?_ _)); exact BK358.out) hb); have n2_ := Aside0.mk (blk_below (g := gb378) (o := .cells #[.bool t359, .bool t360, .int .i64 t361, .bool t362, .bool t363, .bool t364, .bool t365, .int .i64 t366, .bool t367, .bool t368, .bool t369, .bool t370, .bool t371, .bool t372, .bool t373, .bool t374, .int .i64 t375] 23 (0, 0)) (by (with_reducible repeat (first | refine blk_drewN ?_ _ | refine blk_drew ?_ | refine blk_alloc ?_ _)); exact BK378.out) hb); have n3_ := Aside0.mk (below_step (by repeat (first | (with_reducible first | exact HB.out | apply below_alloc | apply pw_below_drewN | apply below_drew1 | refine below_set ?_ GE349.out | refine below_set ?_ GE358.out | refine below_set ?_ GE378.out) | exact HB.out)) hb); clear BK349; clear BK358; clear BK378; clear HB; have BK349 := n0_; have BK358 := n1_; have BK378 := n2_; have HB := n3_; clear n0_ n1_ n2_ n3_; (try clear hb); (try clear hb2); (try clear hk); (try clear hi)))
                            go_ret
                            exact ⟨by first | rfl | (simp [errW_none, errW_some] <;> rfl) | (simp [*, errW_none, errW_some] <;> rfl), by repeat (first | (with_reducible first | exact HB.out | apply below_alloc | apply pw_below_drewN | apply below_drew1 | refine below_set ?_ GE349.out | refine below_set ?_ GE358.out | refine below_set ?_ GE378.out) | exact HB.out)⟩
                          · replace c64 := Bool.eq_false_iff.mpr c64
                            subst c64
                            have H1 : (estoverslaw26_FaultplanPrivate.l0 kj29 a0_14 (wrap64 (x20_2 + 1)) t359 t360 t361 t362 t363 t364 t365 t366 t367 t368 t369 t370 t371 t372 t373 t374 t375) = some r := by rw [if_neg (show ¬ (false = true) by decide)] at H; exact H
                            clear H
                            have H := H1
                            clear H1
                            have H' := Aside0.mk H
                            clear H
                            have hnb67 := NB378_349.out
                            have hnc67 := NB349_378.out
                            have hnb68 := NB378_358.out
                            have hnc68 := NB358_378.out
                            have hcz69_0 : wc.cell? ⟨gb378, 0, none⟩ = some (.bool t359) := (blk_cell BK378.out 0).trans rfl
                            have hcz69_1 : wc.cell? ⟨gb378, 1, none⟩ = some (.bool t360) := (blk_cell BK378.out 1).trans rfl
                            have hcz69_2 : wc.cell? ⟨gb378, 2, none⟩ = some (.int .i64 t361) := (blk_cell BK378.out 2).trans rfl
                            have hcz69_3 : wc.cell? ⟨gb378, 3, none⟩ = some (.bool t362) := (blk_cell BK378.out 3).trans rfl
                            have hcz69_4 : wc.cell? ⟨gb378, 4, none⟩ = some (.bool t363) := (blk_cell BK378.out 4).trans rfl
                            have hcz69_5 : wc.cell? ⟨gb378, 5, none⟩ = some (.bool t364) := (blk_cell BK378.out 5).trans rfl
                            have hcz69_6 : wc.cell? ⟨gb378, 6, none⟩ = some (.bool t365) := (blk_cell BK378.out 6).trans rfl
                            have hcz69_7 : wc.cell? ⟨gb378, 7, none⟩ = some (.int .i64 t366) := (blk_cell BK378.out 7).trans rfl
                            have hcz69_8 : wc.cell? ⟨gb378, 8, none⟩ = some (.bool t367) := (blk_cell BK378.out 8).trans rfl
                            have hcz69_9 : wc.cell? ⟨gb378, 9, none⟩ = some (.bool t368) := (blk_cell BK378.out 9).trans rfl
                            have hcz69_10 : wc.cell? ⟨gb378, 10, none⟩ = some (.bool t369) := (blk_cell BK378.out 10).trans rfl
                            have hcz69_11 : wc.cell? ⟨gb378, 11, none⟩ = some (.bool t370) := (blk_cell BK378.out 11).trans rfl
                            have hcz69_12 : wc.cell? ⟨gb378, 12, none⟩ = some (.bool t371) := (blk_cell BK378.out 12).trans rfl
                            have hcz69_13 : wc.cell? ⟨gb378, 13, none⟩ = some (.bool t372) := (blk_cell BK378.out 13).trans rfl
                            have hcz69_14 : wc.cell? ⟨gb378, 14, none⟩ = some (.bool t373) := (blk_cell BK378.out 14).trans rfl
                            have hcz69_15 : wc.cell? ⟨gb378, 15, none⟩ = some (.bool t374) := (blk_cell BK378.out 15).trans rfl
                            have hcz69_16 : wc.cell? ⟨gb378, 16, none⟩ = some (.int .i64 t375) := (blk_cell BK378.out 16).trans rfl
                            have hfz69_0 := blk_frozen BK378.out 0
                            have hfz69_1 := blk_frozen BK378.out 1
                            have hfz69_2 := blk_frozen BK378.out 2
                            have hfz69_3 := blk_frozen BK378.out 3
                            have hfz69_4 := blk_frozen BK378.out 4
                            have hfz69_5 := blk_frozen BK378.out 5
                            have hfz69_6 := blk_frozen BK378.out 6
                            have hfz69_7 := blk_frozen BK378.out 7
                            have hfz69_8 := blk_frozen BK378.out 8
                            have hfz69_9 := blk_frozen BK378.out 9
                            have hfz69_10 := blk_frozen BK378.out 10
                            have hfz69_11 := blk_frozen BK378.out 11
                            have hfz69_12 := blk_frozen BK378.out 12
                            have hfz69_13 := blk_frozen BK378.out 13
                            have hfz69_14 := blk_frozen BK378.out 14
                            have hfz69_15 := blk_frozen BK378.out 15
                            have hfz69_16 := blk_frozen BK378.out 16
                            have hnb70 := NB349_358.out
                            have hnc70 := NB358_349.out
                            have hcz71_0 : wc.cell? ⟨gb349, 0, none⟩ = some (.bool x350000_2) := (blk_cell BK349.out 0).trans rfl
                            have hcz71_1 : wc.cell? ⟨gb349, 1, none⟩ = some (.bool x350001_2) := (blk_cell BK349.out 1).trans rfl
                            have hcz71_2 : wc.cell? ⟨gb349, 2, none⟩ = some (.int .i64 x350002_2) := (blk_cell BK349.out 2).trans rfl
                            have hcz71_3 : wc.cell? ⟨gb349, 3, none⟩ = some (.bool x350003_2) := (blk_cell BK349.out 3).trans rfl
                            have hcz71_4 : wc.cell? ⟨gb349, 4, none⟩ = some (.bool x350004_2) := (blk_cell BK349.out 4).trans rfl
                            have hcz71_5 : wc.cell? ⟨gb349, 5, none⟩ = some (.bool x350005_2) := (blk_cell BK349.out 5).trans rfl
                            have hcz71_6 : wc.cell? ⟨gb349, 6, none⟩ = some (.bool x350006_2) := (blk_cell BK349.out 6).trans rfl
                            have hcz71_7 : wc.cell? ⟨gb349, 7, none⟩ = some (.int .i64 x350007_2) := (blk_cell BK349.out 7).trans rfl
                            have hcz71_8 : wc.cell? ⟨gb349, 8, none⟩ = some (.bool x350008_2) := (blk_cell BK349.out 8).trans rfl
                            have hcz71_9 : wc.cell? ⟨gb349, 9, none⟩ = some (.bool x350009_2) := (blk_cell BK349.out 9).trans rfl
                            have hcz71_10 : wc.cell? ⟨gb349, 10, none⟩ = some (.bool x350010_2) := (blk_cell BK349.out 10).trans rfl
                            have hcz71_11 : wc.cell? ⟨gb349, 11, none⟩ = some (.bool x350011_2) := (blk_cell BK349.out 11).trans rfl
                            have hcz71_12 : wc.cell? ⟨gb349, 12, none⟩ = some (.bool x350012_2) := (blk_cell BK349.out 12).trans rfl
                            have hcz71_13 : wc.cell? ⟨gb349, 13, none⟩ = some (.bool x350013_2) := (blk_cell BK349.out 13).trans rfl
                            have hcz71_14 : wc.cell? ⟨gb349, 14, none⟩ = some (.bool x350014_2) := (blk_cell BK349.out 14).trans rfl
                            have hcz71_15 : wc.cell? ⟨gb349, 15, none⟩ = some (.bool x350015_2) := (blk_cell BK349.out 15).trans rfl
                            have hcz71_16 : wc.cell? ⟨gb349, 16, none⟩ = some (.int .i64 x350016_2) := (blk_cell BK349.out 16).trans rfl
                            have hfz71_0 := blk_frozen BK349.out 0
                            have hfz71_1 := blk_frozen BK349.out 1
                            have hfz71_2 := blk_frozen BK349.out 2
                            have hfz71_3 := blk_frozen BK349.out 3
                            have hfz71_4 := blk_frozen BK349.out 4
                            have hfz71_5 := blk_frozen BK349.out 5
                            have hfz71_6 := blk_frozen BK349.out 6
                            have hfz71_7 := blk_frozen BK349.out 7
                            have hfz71_8 := blk_frozen BK349.out 8
                            have hfz71_9 := blk_frozen BK349.out 9
                            have hfz71_10 := blk_frozen BK349.out 10
                            have hfz71_11 := blk_frozen BK349.out 11
                            have hfz71_12 := blk_frozen BK349.out 12
                            have hfz71_13 := blk_frozen BK349.out 13
                            have hfz71_14 := blk_frozen BK349.out 14
                            have hfz71_15 := blk_frozen BK349.out 15
                            have hfz71_16 := blk_frozen BK349.out 16
                            go_wp2
                            go_roundg kj29
                            case measure => have := HJ1.out; have := HK2.out; have := HJ15.out; have := HJ29.out; omega
                            case rel => exact ⟨(wrap64 (x20_2 + 1)), (t359), (t360), (t361), (t362), (t363), (t364), (t365), (t366), (t367), (t368), (t369), (t370), (t371), (t372), (t373), (t374), (t375), (by first | rfl | (simp; done) | (simp [*]; done)), H', ⟨by have := HJ1.out; have := HK2.out; have := HJ15.out; have := HJ29.out; omega⟩, ⟨by (with_reducible repeat (first | refine blk_drewN ?_ _ | refine blk_drew ?_ | refine blk_alloc ?_ _)); refine blk_put (cs := #[.bool t359, .bool t360, .int .i64 t361, .bool t362, .bool t363, .bool t364, .bool t365, .int .i64 t366, .bool t367, .bool t368, .bool t369, .bool t370, .bool t371, .bool t372, .bool t373, .bool t374, .int .i64 x350016_2]) ?_ 16 _ rfl; (with_reducible repeat (first | refine blk_drewN ?_ _ | refine blk_drew ?_ | refine blk_alloc ?_ _)); refine blk_put (cs := #[.bool t359, .bool t360, .int .i64 t361, .bool t362, .bool t363, .bool t364, .bool t365, .int .i64 t366, .bool t367, .bool t368, .bool t369, .bool t370, .bool t371, .bool t372, .bool t373, .bool x350015_2, .int .i64 x350016_2]) ?_ 15 _ rfl; (with_reducible repeat (first | refine blk_drewN ?_ _ | refine blk_drew ?_ | refine blk_alloc ?_ _)); refine blk_put (cs := #[.bool t359, .bool t360, .int .i64 t361, .bool t362, .bool t363, .bool t364, .bool t365, .int .i64 t366, .bool t367, .bool t368, .bool t369, .bool t370, .bool t371, .bool t372, .bool x350014_2, .bool x350015_2, .int .i64 x350016_2]) ?_ 14 _ rfl; (with_reducible repeat (first | refine blk_drewN ?_ _ | refine blk_drew ?_ | refine blk_alloc ?_ _)); refine blk_put (cs := #[.bool t359, .bool t360, .int .i64 t361, .bool t362, .bool t363, .bool t364, .bool t365, .int .i64 t366, .bool t367, .bool t368, .bool t369, .bool t370, .bool t371, .bool x350013_2, .bool x350014_2, .bool x350015_2, .int .i64 x350016_2]) ?_ 13 _ rfl; (with_reducible repeat (first | refine blk_drewN ?_ _ | refine blk_drew ?_ | refine blk_alloc ?_ _)); refine blk_put (cs := #[.bool t359, .bool t360, .int .i64 t361, .bool t362, .bool t363, .bool t364, .bool t365, .int .i64 t366, .bool t367, .bool t368, .bool t369, .bool t370, .bool x350012_2, .bool x350013_2, .bool x350014_2, .bool x350015_2, .int .i64 x350016_2]) ?_ 12 _ rfl; (with_reducible repeat (first | refine blk_drewN ?_ _ | refine blk_drew ?_ | refine blk_alloc ?_ _)); refine blk_put (cs := #[.bool t359, .bool t360, .int .i64 t361, .bool t362, .bool t363, .bool t364, .bool t365, .int .i64 t366, .bool t367, .bool t368, .bool t369, .bool x350011_2, .bool x350012_2, .bool x350013_2, .bool x350014_2, .bool x350015_2, .int .i64 x350016_2]) ?_ 11 _ rfl; (with_reducible repeat (first | refine blk_drewN ?_ _ | refine blk_drew ?_ | refine blk_alloc ?_ _)); refine blk_put (cs := #[.bool t359, .bool t360, .int .i64 t361, .bool t362, .bool t363, .bool t364, .bool t365, .int .i64 t366, .bool t367, .bool t368, .bool x350010_2, .bool x350011_2, .bool x350012_2, .bool x350013_2, .bool x350014_2, .bool x350015_2, .int .i64 x350016_2]) ?_ 10 _ rfl; (with_reducible repeat (first | refine blk_drewN ?_ _ | refine blk_drew ?_ | refine blk_alloc ?_ _)); refine blk_put (cs := #[.bool t359, .bool t360, .int .i64 t361, .bool t362, .bool t363, .bool t364, .bool t365, .int .i64 t366, .bool t367, .bool x350009_2, .bool x350010_2, .bool x350011_2, .bool x350012_2, .bool x350013_2, .bool x350014_2, .bool x350015_2, .int .i64 x350016_2]) ?_ 9 _ rfl; (with_reducible repeat (first | refine blk_drewN ?_ _ | refine blk_drew ?_ | refine blk_alloc ?_ _)); refine blk_put (cs := #[.bool t359, .bool t360, .int .i64 t361, .bool t362, .bool t363, .bool t364, .bool t365, .int .i64 t366, .bool x350008_2, .bool x350009_2, .bool x350010_2, .bool x350011_2, .bool x350012_2, .bool x350013_2, .bool x350014_2, .bool x350015_2, .int .i64 x350016_2]) ?_ 8 _ rfl; (with_reducible repeat (first | refine blk_drewN ?_ _ | refine blk_drew ?_ | refine blk_alloc ?_ _)); refine blk_put (cs := #[.bool t359, .bool t360, .int .i64 t361, .bool t362, .bool t363, .bool t364, .bool t365, .int .i64 x350007_2, .bool x350008_2, .bool x350009_2, .bool x350010_2, .bool x350011_2, .bool x350012_2, .bool x350013_2, .bool x350014_2, .bool x350015_2, .int .i64 x350016_2]) ?_ 7 _ rfl; (with_reducible repeat (first | refine blk_drewN ?_ _ | refine blk_drew ?_ | refine blk_alloc ?_ _)); refine blk_put (cs := #[.bool t359, .bool t360, .int .i64 t361, .bool t362, .bool t363, .bool t364, .bool x350006_2, .int .i64 x350007_2, .bool x350008_2, .bool x350009_2, .bool x350010_2, .bool x350011_2, .bool x350012_2, .bool x350013_2, .bool x350014_2, .bool x350015_2, .int .i64 x350016_2]) ?_ 6 _ rfl; (with_reducible repeat (first | refine blk_drewN ?_ _ | refine blk_drew ?_ | refine blk_alloc ?_ _)); refine blk_put (cs := #[.bool t359, .bool t360, .int .i64 t361, .bool t362, .bool t363, .bool x350005_2, .bool x350006_2, .int .i64 x350007_2, .bool x350008_2, .bool x350009_2, .bool x350010_2, .bool x350011_2, .bool x350012_2, .bool x350013_2, .bool x350014_2, .bool x350015_2, .int .i64 x350016_2]) ?_ 5 _ rfl; (with_reducible repeat (first | refine blk_drewN ?_ _ | refine blk_drew ?_ | refine blk_alloc ?_ _)); refine blk_put (cs := #[.bool t359, .bool t360, .int .i64 t361, .bool t362, .bool x350004_2, .bool x350005_2, .bool x350006_2, .int .i64 x350007_2, .bool x350008_2, .bool x350009_2, .bool x350010_2, .bool x350011_2, .bool x350012_2, .bool x350013_2, .bool x350014_2, .bool x350015_2, .int .i64 x350016_2]) ?_ 4 _ rfl; (with_reducible repeat (first | refine blk_drewN ?_ _ | refine blk_drew ?_ | refine blk_alloc ?_ _)); refine blk_put (cs := #[.bool t359, .bool t360, .int .i64 t361, .bool x350003_2, .bool x350004_2, .bool x350005_2, .bool x350006_2, .int .i64 x350007_2, .bool x350008_2, .bool x350009_2, .bool x350010_2, .bool x350011_2, .bool x350012_2, .bool x350013_2, .bool x350014_2, .bool x350015_2, .int .i64 x350016_2]) ?_ 3 _ rfl; (with_reducible repeat (first | refine blk_drewN ?_ _ | refine blk_drew ?_ | refine blk_alloc ?_ _)); refine blk_put (cs := #[.bool t359, .bool t360, .int .i64 x350002_2, .bool x350003_2, .bool x350004_2, .bool x350005_2, .bool x350006_2, .int .i64 x350007_2, .bool x350008_2, .bool x350009_2, .bool x350010_2, .bool x350011_2, .bool x350012_2, .bool x350013_2, .bool x350014_2, .bool x350015_2, .int .i64 x350016_2]) ?_ 2 _ rfl; (with_reducible repeat (first | refine blk_drewN ?_ _ | refine blk_drew ?_ | refine blk_alloc ?_ _)); refine blk_put (cs := #[.bool t359, .bool x350001_2, .int .i64 x350002_2, .bool x350003_2, .bool x350004_2, .bool x350005_2, .bool x350006_2, .int .i64 x350007_2, .bool x350008_2, .bool x350009_2, .bool x350010_2, .bool x350011_2, .bool x350012_2, .bool x350013_2, .bool x350014_2, .bool x350015_2, .int .i64 x350016_2]) ?_ 1 _ rfl; (with_reducible repeat (first | refine blk_drewN ?_ _ | refine blk_drew ?_ | refine blk_alloc ?_ _)); refine blk_put (cs := #[.bool x350000_2, .bool x350001_2, .int .i64 x350002_2, .bool x350003_2, .bool x350004_2, .bool x350005_2, .bool x350006_2, .int .i64 x350007_2, .bool x350008_2, .bool x350009_2, .bool x350010_2, .bool x350011_2, .bool x350012_2, .bool x350013_2, .bool x350014_2, .bool x350015_2, .int .i64 x350016_2]) ?_ 0 _ rfl; (with_reducible repeat (first | refine blk_drewN ?_ _ | refine blk_drew ?_ | refine blk_alloc ?_ _)); exact BK349.out⟩, ⟨by repeat (first | (with_reducible first | exact HB.out | apply below_alloc | apply pw_below_drewN | apply below_drew1 | refine below_set ?_ GE349.out | refine below_set ?_ GE358.out | refine below_set ?_ GE378.out) | exact HB.out)⟩⟩
            · rw [if_neg c13] at H
              have c13b0 : decide (x20_2 < 8) = false := decide_eq_false c13
              clear c13
              obtain rfl := Option.some.inj H
              go_wp2
              go_ret
              exact ⟨by first | rfl | (simp [errW_none, errW_some] <;> rfl) | (simp [*, errW_none, errW_some] <;> rfl), by repeat (first | (with_reducible first | exact HB.out | apply below_alloc | apply pw_below_drewN | apply below_drew1 | refine below_set ?_ GE349.out) | exact HB.out)⟩

end Go.Proofs.Ytfobedaepflidaa.F

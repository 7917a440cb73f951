-- Written by a program of this session (own_print.py) that runs the kit's printer. Lean checks it.
import Derived.Test.YtfobedaepflidaaF0
import Derived.Test.YtfobedaepflidaaF2
import Derived.Test.YtfobedaepflidaaF10
import Derived.Test.YtfobedaepflidaaF13
namespace Go.Proofs.Ytfobedaepflidaa.F
open Go.RowKit Go.Proofs.YtfobedaepflidaaW.PrintWords Go.Proofs.YtfobedaepflidaaW.PrintLast Go.Proofs.YtfobedaepflidaaW.PrintMore
attribute [local go_sem] max2_int min2_int max_two min_two max_three min_three max_four min_four   -- for this text's walks alone
set_option linter.unusedVariables false
set_option linter.unusedSimpArgs false

attribute [local go_sem ↓ high] ld23a sv23a
attribute [local go_sem high] ld23 sv23
attribute [local go_sem high] eqA28
/-! ### estoverslaw26_FaultplanNeeds: function 7 -/
mutual
def estoverslaw26_FaultplanNeeds.j0 : Nat → Bool → Int → Int → Int → Int → Int → Option (Bool)
  | 0, _, _, _, _, _, _ => none
  | k + 1, x55, x330000, x330001, x330002, x330003, x330004 => if x55 = true then (some false) else (if x330000 = 0 then (estoverslaw26_FaultplanNeeds.j1 k true x330000 x330001 x330002 x330003 x330004) else (if x330000 = 1 then (estoverslaw26_FaultplanNeeds.j1 k true x330000 x330001 x330002 x330003 x330004) else (estoverslaw26_FaultplanNeeds.j1 k (x330000 == 2) x330000 x330001 x330002 x330003 x330004)))
def estoverslaw26_FaultplanNeeds.j1 : Nat → Bool → Int → Int → Int → Int → Int → Option (Bool)
  | 0, _, _, _, _, _, _ => none
  | k + 1, x68, x330000, x330001, x330002, x330003, x330004 => if x68 = true then (if x330004 = 0 then (if x330003 = 0 then ((estoverslaw26_awake.f k).bind fun t331 => (some t331)) else (some false)) else (some false)) else ((estoverslaw26_awake.f k).bind fun t332 => (some t332))
end
def estoverslaw26_FaultplanNeeds.f (k : Nat) (a0_0 : Bool) (a0_1 : Bool) (a0_2 : Int) (a0_3 : Bool) (a0_4 : Bool) (a0_5 : Bool) (a0_6 : Bool) (a0_7 : Int) (a0_8 : Bool) (a0_9 : Bool) (a0_10 : Bool) (a0_11 : Bool) (a0_12 : Bool) (a0_13 : Bool) (a0_14 : Bool) (a0_15 : Bool) (a0_16 : Int) : Option (Bool) := (faultplan_Plan.f k a0_0 a0_1 a0_2 a0_3 a0_4 a0_5 a0_6 a0_7 a0_8 a0_9 a0_10 a0_11 a0_12 a0_13 a0_14 a0_15 a0_16).bind fun bt323 => (if bt323.2.2.2.2.2 = 0 then (if bt323.2.2.2.2.1 < 0 then (estoverslaw26_FaultplanNeeds.j0 k true bt323.1 bt323.2.1 bt323.2.2.1 bt323.2.2.2.1 bt323.2.2.2.2.1) else (if bt323.2.2.2.2.1 > 1 then (estoverslaw26_FaultplanNeeds.j0 k true bt323.1 bt323.2.1 bt323.2.2.1 bt323.2.2.2.1 bt323.2.2.2.2.1) else (if bt323.2.2.2.1 = 0 then (if bt323.2.1 = 0 then (if bt323.1 = 1 then (estoverslaw26_FaultplanNeeds.j0 k true bt323.1 bt323.2.1 bt323.2.2.1 bt323.2.2.2.1 bt323.2.2.2.2.1) else (if bt323.2.2.1 = 0 then (if bt323.1 = 2 then (estoverslaw26_FaultplanNeeds.j0 k true bt323.1 bt323.2.1 bt323.2.2.1 bt323.2.2.2.1 bt323.2.2.2.2.1) else (estoverslaw26_FaultplanNeeds.j0 k false bt323.1 bt323.2.1 bt323.2.2.1 bt323.2.2.2.1 bt323.2.2.2.2.1)) else (if bt323.1 = 2 then (estoverslaw26_FaultplanNeeds.j0 k false bt323.1 bt323.2.1 bt323.2.2.1 bt323.2.2.2.1 bt323.2.2.2.2.1) else (estoverslaw26_FaultplanNeeds.j0 k true bt323.1 bt323.2.1 bt323.2.2.1 bt323.2.2.2.1 bt323.2.2.2.2.1)))) else (if bt323.1 = 1 then (if bt323.2.2.1 = 0 then (if bt323.1 = 2 then (estoverslaw26_FaultplanNeeds.j0 k true bt323.1 bt323.2.1 bt323.2.2.1 bt323.2.2.2.1 bt323.2.2.2.2.1) else (estoverslaw26_FaultplanNeeds.j0 k false bt323.1 bt323.2.1 bt323.2.2.1 bt323.2.2.2.1 bt323.2.2.2.2.1)) else (if bt323.1 = 2 then (estoverslaw26_FaultplanNeeds.j0 k false bt323.1 bt323.2.1 bt323.2.2.1 bt323.2.2.2.1 bt323.2.2.2.2.1) else (estoverslaw26_FaultplanNeeds.j0 k true bt323.1 bt323.2.1 bt323.2.2.1 bt323.2.2.2.1 bt323.2.2.2.2.1))) else (estoverslaw26_FaultplanNeeds.j0 k true bt323.1 bt323.2.1 bt323.2.2.1 bt323.2.2.2.1 bt323.2.2.2.2.1))) else (if bt323.2.2.2.1 = a0_16 then (if bt323.2.1 = 0 then (if bt323.1 = 1 then (estoverslaw26_FaultplanNeeds.j0 k true bt323.1 bt323.2.1 bt323.2.2.1 bt323.2.2.2.1 bt323.2.2.2.2.1) else (if bt323.2.2.1 = 0 then (if bt323.1 = 2 then (estoverslaw26_FaultplanNeeds.j0 k true bt323.1 bt323.2.1 bt323.2.2.1 bt323.2.2.2.1 bt323.2.2.2.2.1) else (estoverslaw26_FaultplanNeeds.j0 k false bt323.1 bt323.2.1 bt323.2.2.1 bt323.2.2.2.1 bt323.2.2.2.2.1)) else (if bt323.1 = 2 then (estoverslaw26_FaultplanNeeds.j0 k false bt323.1 bt323.2.1 bt323.2.2.1 bt323.2.2.2.1 bt323.2.2.2.2.1) else (estoverslaw26_FaultplanNeeds.j0 k true bt323.1 bt323.2.1 bt323.2.2.1 bt323.2.2.2.1 bt323.2.2.2.2.1)))) else (if bt323.1 = 1 then (if bt323.2.2.1 = 0 then (if bt323.1 = 2 then (estoverslaw26_FaultplanNeeds.j0 k true bt323.1 bt323.2.1 bt323.2.2.1 bt323.2.2.2.1 bt323.2.2.2.2.1) else (estoverslaw26_FaultplanNeeds.j0 k false bt323.1 bt323.2.1 bt323.2.2.1 bt323.2.2.2.1 bt323.2.2.2.2.1)) else (if bt323.1 = 2 then (estoverslaw26_FaultplanNeeds.j0 k false bt323.1 bt323.2.1 bt323.2.2.1 bt323.2.2.2.1 bt323.2.2.2.2.1) else (estoverslaw26_FaultplanNeeds.j0 k true bt323.1 bt323.2.1 bt323.2.2.1 bt323.2.2.2.1 bt323.2.2.2.2.1))) else (estoverslaw26_FaultplanNeeds.j0 k true bt323.1 bt323.2.1 bt323.2.2.1 bt323.2.2.2.1 bt323.2.2.2.2.1))) else (estoverslaw26_FaultplanNeeds.j0 k true bt323.1 bt323.2.1 bt323.2.2.1 bt323.2.2.2.1 bt323.2.2.2.2.1))))) else (if (bt323.1 == 0 && (bt323.2.1 == 0 && (bt323.2.2.1 == 0 && (bt323.2.2.2.1 == 0 && (bt323.2.2.2.2.1 == 0))))) = true then ((estoverslaw26_awake.f k).bind fun t330 => (some t330)) else (some false)))
theorem estoverslaw26_FaultplanNeeds.mono_l : ∀ k, (∀ y0 y1 y2 y3 y4 y5, LeO (estoverslaw26_FaultplanNeeds.j0 k y0 y1 y2 y3 y4 y5) (estoverslaw26_FaultplanNeeds.j0 (k + 1) y0 y1 y2 y3 y4 y5)) ∧ (∀ y0 y1 y2 y3 y4 y5, LeO (estoverslaw26_FaultplanNeeds.j1 k y0 y1 y2 y3 y4 y5) (estoverslaw26_FaultplanNeeds.j1 (k + 1) y0 y1 y2 y3 y4 y5))
  | 0 => ⟨fun _ _ _ _ _ _ r h => by simp [estoverslaw26_FaultplanNeeds.j0] at h, fun _ _ _ _ _ _ r h => by simp [estoverslaw26_FaultplanNeeds.j1] at h⟩
  | k + 1 => by
    obtain ⟨ih0, ih1⟩ := estoverslaw26_FaultplanNeeds.mono_l k
    refine ⟨?_, ?_⟩
    · intro y0 y1 y2 y3 y4 y5
      unfold estoverslaw26_FaultplanNeeds.j0
      repeat' first
      | (with_reducible exact ih0 _ _ _ _ _ _)
      | (with_reducible exact ih1 _ _ _ _ _ _)
      | (with_reducible exact estoverslaw26_awake.mono _)
      | (with_reducible exact faultplan_Plan.mono _ _ _ _ _ _ _ _ _ _ _ _ _ _ _ _ _ _)
      | (with_reducible exact LeO.refl _)
      | (with_reducible exact LeO.none _)
      | (with_reducible refine LeO.ite ?_ ?_)
      | (with_reducible refine LeO.bind ?_ (fun _ => ?_))
      | exact ih0 _ _ _ _ _ _
      | exact ih1 _ _ _ _ _ _
      | exact estoverslaw26_awake.mono _
      | exact faultplan_Plan.mono _ _ _ _ _ _ _ _ _ _ _ _ _ _ _ _ _ _
      | exact LeO.none _
      | refine LeO.ite ?_ ?_
      | refine LeO.bind ?_ (fun _ => ?_)
    · intro y0 y1 y2 y3 y4 y5
      unfold estoverslaw26_FaultplanNeeds.j1
      repeat' first
      | (with_reducible exact ih0 _ _ _ _ _ _)
      | (with_reducible exact ih1 _ _ _ _ _ _)
      | (with_reducible exact estoverslaw26_awake.mono _)
      | (with_reducible exact faultplan_Plan.mono _ _ _ _ _ _ _ _ _ _ _ _ _ _ _ _ _ _)
      | (with_reducible exact LeO.refl _)
      | (with_reducible exact LeO.none _)
      | (with_reducible refine LeO.ite ?_ ?_)
      | (with_reducible refine LeO.bind ?_ (fun _ => ?_))
      | exact ih0 _ _ _ _ _ _
      | exact ih1 _ _ _ _ _ _
      | exact estoverslaw26_awake.mono _
      | exact faultplan_Plan.mono _ _ _ _ _ _ _ _ _ _ _ _ _ _ _ _ _ _
      | exact LeO.none _
      | refine LeO.ite ?_ ?_
      | refine LeO.bind ?_ (fun _ => ?_)
theorem estoverslaw26_FaultplanNeeds.mono : ∀ a0 a1 a2 a3 a4 a5 a6 a7 a8 a9 a10 a11 a12 a13 a14 a15 a16 k, LeO (estoverslaw26_FaultplanNeeds.f k a0 a1 a2 a3 a4 a5 a6 a7 a8 a9 a10 a11 a12 a13 a14 a15 a16) (estoverslaw26_FaultplanNeeds.f (k + 1) a0 a1 a2 a3 a4 a5 a6 a7 a8 a9 a10 a11 a12 a13 a14 a15 a16) := by
  intro a0 a1 a2 a3 a4 a5 a6 a7 a8 a9 a10 a11 a12 a13 a14 a15 a16 k
  obtain ⟨ih0, ih1⟩ := estoverslaw26_FaultplanNeeds.mono_l k
  unfold estoverslaw26_FaultplanNeeds.f
  repeat' first
      | (with_reducible exact ih0 _ _ _ _ _ _)
      | (with_reducible exact ih1 _ _ _ _ _ _)
      | (with_reducible exact estoverslaw26_awake.mono _)
      | (with_reducible exact faultplan_Plan.mono _ _ _ _ _ _ _ _ _ _ _ _ _ _ _ _ _ _)
      | (with_reducible exact LeO.refl _)
      | (with_reducible exact LeO.none _)
      | (with_reducible refine LeO.ite ?_ ?_)
      | (with_reducible refine LeO.bind ?_ (fun _ => ?_))
      | exact ih0 _ _ _ _ _ _
      | exact ih1 _ _ _ _ _ _
      | exact estoverslaw26_awake.mono _
      | exact faultplan_Plan.mono _ _ _ _ _ _ _ _ _ _ _ _ _ _ _ _ _ _
      | exact LeO.none _
      | refine LeO.ite ?_ ?_
      | refine LeO.bind ?_ (fun _ => ?_)
set_option maxHeartbeats 8000000 in
set_option maxRecDepth 100000 in
theorem estoverslaw26_FaultplanNeeds.calls (k : Nat) (a0_0 : Bool) (a0_1 : Bool) (a0_2 : Int) (a0_3 : Bool) (a0_4 : Bool) (a0_5 : Bool) (a0_6 : Bool) (a0_7 : Int) (a0_8 : Bool) (a0_9 : Bool) (a0_10 : Bool) (a0_11 : Bool) (a0_12 : Bool) (a0_13 : Bool) (a0_14 : Bool) (a0_15 : Bool) (a0_16 : Int) (r : Bool) (w : World) (h : estoverslaw26_FaultplanNeeds.f k a0_0 a0_1 a0_2 a0_3 a0_4 a0_5 a0_6 a0_7 a0_8 a0_9 a0_10 a0_11 a0_12 a0_13 a0_14 a0_15 a0_16 = some r) :
    Calls Try.prog 7 #[.agg #[.bool a0_0, .bool a0_1, .int .i64 a0_2, .bool a0_3, .bool a0_4, .bool a0_5, .bool a0_6, .int .i64 a0_7, .bool a0_8, .bool a0_9, .bool a0_10, .bool a0_11, .bool a0_12, .bool a0_13, .bool a0_14, .bool a0_15, .int .i64 a0_16]] w fun e w' => e = .returned (.bool r) ∧ Below w.heap.size w w' := by
  have hu23 := Try.underlying23
  have hu28 := Try.underlying28
  have HB := Aside0.mk (Below.refl w.heap.size w)
  have H : ((faultplan_Plan.f k a0_0 a0_1 a0_2 a0_3 a0_4 a0_5 a0_6 a0_7 a0_8 a0_9 a0_10 a0_11 a0_12 a0_13 a0_14 a0_15 a0_16).bind fun bt323 => (if bt323.2.2.2.2.2 = 0 then (if bt323.2.2.2.2.1 < 0 then (estoverslaw26_FaultplanNeeds.j0 k true bt323.1 bt323.2.1 bt323.2.2.1 bt323.2.2.2.1 bt323.2.2.2.2.1) else (if bt323.2.2.2.2.1 > 1 then (estoverslaw26_FaultplanNeeds.j0 k true bt323.1 bt323.2.1 bt323.2.2.1 bt323.2.2.2.1 bt323.2.2.2.2.1) else (if bt323.2.2.2.1 = 0 then (if bt323.2.1 = 0 then (if bt323.1 = 1 then (estoverslaw26_FaultplanNeeds.j0 k true bt323.1 bt323.2.1 bt323.2.2.1 bt323.2.2.2.1 bt323.2.2.2.2.1) else (if bt323.2.2.1 = 0 then (if bt323.1 = 2 then (estoverslaw26_FaultplanNeeds.j0 k true bt323.1 bt323.2.1 bt323.2.2.1 bt323.2.2.2.1 bt323.2.2.2.2.1) else (estoverslaw26_FaultplanNeeds.j0 k false bt323.1 bt323.2.1 bt323.2.2.1 bt323.2.2.2.1 bt323.2.2.2.2.1)) else (if bt323.1 = 2 then (estoverslaw26_FaultplanNeeds.j0 k false bt323.1 bt323.2.1 bt323.2.2.1 bt323.2.2.2.1 bt323.2.2.2.2.1) else (estoverslaw26_FaultplanNeeds.j0 k true bt323.1 bt323.2.1 bt323.2.2.1 bt323.2.2.2.1 bt323.2.2.2.2.1)))) else (if bt323.1 = 1 then (if bt323.2.2.1 = 0 then (if bt323.1 = 2 then (estoverslaw26_FaultplanNeeds.j0 k true bt323.1 bt323.2.1 bt323.2.2.1 bt323.2.2.2.1 bt323.2.2.2.2.1) else (estoverslaw26_FaultplanNeeds.j0 k false bt323.1 bt323.2.1 bt323.2.2.1 bt323.2.2.2.1 bt323.2.2.2.2.1)) else (if bt323.1 = 2 then (estoverslaw26_FaultplanNeeds.j0 k false bt323.1 bt323.2.1 bt323.2.2.1 bt323.2.2.2.1 bt323.2.2.2.2.1) else (estoverslaw26_FaultplanNeeds.j0 k true bt323.1 bt323.2.1 bt323.2.2.1 bt323.2.2.2.1 bt323.2.2.2.2.1))) else (estoverslaw26_FaultplanNeeds.j0 k true bt323.1 bt323.2.1 bt323.2.2.1 bt323.2.2.2.1 bt323.2.2.2.2.1))) else (if bt323.2.2.2.1 = a0_16 then (if bt323.2.1 = 0 then (if bt323.1 = 1 then (estoverslaw26_FaultplanNeeds.j0 k true bt323.1 bt323.2.1 bt323.2.2.1 bt323.2.2.2.1 bt323.2.2.2.2.1) else (if bt323.2.2.1 = 0 then (if bt323.1 = 2 then (estoverslaw26_FaultplanNeeds.j0 k true bt323.1 bt323.2.1 bt323.2.2.1 bt323.2.2.2.1 bt323.2.2.2.2.1) else (estoverslaw26_FaultplanNeeds.j0 k false bt323.1 bt323.2.1 bt323.2.2.1 bt323.2.2.2.1 bt323.2.2.2.2.1)) else (if bt323.1 = 2 then (estoverslaw26_FaultplanNeeds.j0 k false bt323.1 bt323.2.1 bt323.2.2.1 bt323.2.2.2.1 bt323.2.2.2.2.1) else (estoverslaw26_FaultplanNeeds.j0 k true bt323.1 bt323.2.1 bt323.2.2.1 bt323.2.2.2.1 bt323.2.2.2.2.1)))) else (if bt323.1 = 1 then (if bt323.2.2.1 = 0 then (if bt323.1 = 2 then (estoverslaw26_FaultplanNeeds.j0 k true bt323.1 bt323.2.1 bt323.2.2.1 bt323.2.2.2.1 bt323.2.2.2.2.1) else (estoverslaw26_FaultplanNeeds.j0 k false bt323.1 bt323.2.1 bt323.2.2.1 bt323.2.2.2.1 bt323.2.2.2.2.1)) else (if bt323.1 = 2 then (estoverslaw26_FaultplanNeeds.j0 k false bt323.1 bt323.2.1 bt323.2.2.1 bt323.2.2.2.1 bt323.2.2.2.2.1) else (estoverslaw26_FaultplanNeeds.j0 k true bt323.1 bt323.2.1 bt323.2.2.1 bt323.2.2.2.1 bt323.2.2.2.2.1))) else (estoverslaw26_FaultplanNeeds.j0 k true bt323.1 bt323.2.1 bt323.2.2.1 bt323.2.2.2.1 bt323.2.2.2.2.1))) else (estoverslaw26_FaultplanNeeds.j0 k true bt323.1 bt323.2.1 bt323.2.2.1 bt323.2.2.2.1 bt323.2.2.2.2.1))))) else (if (bt323.1 == 0 && (bt323.2.1 == 0 && (bt323.2.2.1 == 0 && (bt323.2.2.2.1 == 0 && (bt323.2.2.2.2.1 == 0))))) = true then ((estoverslaw26_awake.f k).bind fun t330 => (some t330)) else (some false)))) = some r := h
  clear h
  replace H := Option.bind_eq_some_iff.mp H
  obtain ⟨⟨t323, t324, t325, t326, t327, t328⟩, A20, H⟩ := H
  replace H : (if t328 = 0 then (if t327 < 0 then (estoverslaw26_FaultplanNeeds.j0 k true t323 t324 t325 t326 t327) else (if t327 > 1 then (estoverslaw26_FaultplanNeeds.j0 k true t323 t324 t325 t326 t327) else (if t326 = 0 then (if t324 = 0 then (if t323 = 1 then (estoverslaw26_FaultplanNeeds.j0 k true t323 t324 t325 t326 t327) else (if t325 = 0 then (if t323 = 2 then (estoverslaw26_FaultplanNeeds.j0 k true t323 t324 t325 t326 t327) else (estoverslaw26_FaultplanNeeds.j0 k false t323 t324 t325 t326 t327)) else (if t323 = 2 then (estoverslaw26_FaultplanNeeds.j0 k false t323 t324 t325 t326 t327) else (estoverslaw26_FaultplanNeeds.j0 k true t323 t324 t325 t326 t327)))) else (if t323 = 1 then (if t325 = 0 then (if t323 = 2 then (estoverslaw26_FaultplanNeeds.j0 k true t323 t324 t325 t326 t327) else (estoverslaw26_FaultplanNeeds.j0 k false t323 t324 t325 t326 t327)) else (if t323 = 2 then (estoverslaw26_FaultplanNeeds.j0 k false t323 t324 t325 t326 t327) else (estoverslaw26_FaultplanNeeds.j0 k true t323 t324 t325 t326 t327))) else (estoverslaw26_FaultplanNeeds.j0 k true t323 t324 t325 t326 t327))) else (if t326 = a0_16 then (if t324 = 0 then (if t323 = 1 then (estoverslaw26_FaultplanNeeds.j0 k true t323 t324 t325 t326 t327) else (if t325 = 0 then (if t323 = 2 then (estoverslaw26_FaultplanNeeds.j0 k true t323 t324 t325 t326 t327) else (estoverslaw26_FaultplanNeeds.j0 k false t323 t324 t325 t326 t327)) else (if t323 = 2 then (estoverslaw26_FaultplanNeeds.j0 k false t323 t324 t325 t326 t327) else (estoverslaw26_FaultplanNeeds.j0 k true t323 t324 t325 t326 t327)))) else (if t323 = 1 then (if t325 = 0 then (if t323 = 2 then (estoverslaw26_FaultplanNeeds.j0 k true t323 t324 t325 t326 t327) else (estoverslaw26_FaultplanNeeds.j0 k false t323 t324 t325 t326 t327)) else (if t323 = 2 then (estoverslaw26_FaultplanNeeds.j0 k false t323 t324 t325 t326 t327) else (estoverslaw26_FaultplanNeeds.j0 k true t323 t324 t325 t326 t327))) else (estoverslaw26_FaultplanNeeds.j0 k true t323 t324 t325 t326 t327))) else (estoverslaw26_FaultplanNeeds.j0 k true t323 t324 t325 t326 t327))))) else (if (t323 == 0 && (t324 == 0 && (t325 == 0 && (t326 == 0 && (t327 == 0))))) = true then ((estoverslaw26_awake.f k).bind fun t330 => (some t330)) else (some false))) = some r := H
  have A2 := Aside0.mk A20
  clear A20
  by_cases c3 : t328 = 0
  · rw [if_pos c3] at H
    have c3b0 : (t328 == 0) = true := beq_iff_eq.mpr c3
    have c3b1 : (t328 != 0) = false := bne_eq_false_iff_eq.mpr c3
    clear c3
    have HC4 := Aside0.mk H
    clear H
    go_enter Try.func7, Try.ntmps7
    go_upto_region 4 with (first | ((with_reducible refine gate_dst (N := 1) rfl ?_); refine box_event ?hg (N := 1) ?hd (cs := #[.bool a0_0, .bool a0_1, .int .i64 a0_2, .bool a0_3, .bool a0_4, .bool a0_5, .bool a0_6, .int .i64 a0_7, .bool a0_8, .bool a0_9, .bool a0_10, .bool a0_11, .bool a0_12, .bool a0_13, .bool a0_14, .bool a0_15, .int .i64 a0_16]) (t := 23) ?hr ?_; (case hd => rfl); (case hg => rfl); (case hr => first | (go_simp; done) | (go_simp; rfl)); intro gb322 hg w5 hbox hb; have n0_ := Aside0.mk (below_step (by repeat (first | (with_reducible first | exact HB.out | apply below_alloc | apply pw_below_drewN | apply below_drew1) | exact HB.out)) hb); have n1_ := Aside0.mk (hbox); have n2_ := Aside0.mk ((by rw [hg]; exact (below_size (by repeat (first | (with_reducible first | exact HB.out | apply below_alloc | apply pw_below_drewN | apply below_drew1) | exact HB.out))) : w.heap.size ≤ gb322)); have n3_ := Aside0.mk ((by rw [hg]; exact (below_size (by repeat (first | (with_reducible first | exact HB.out | apply below_alloc | apply pw_below_drewN | apply below_drew1) | exact HB.out))) : w.heap.size ≤ gb322)); clear HB; have HB := n0_; have BK322 := n1_; have GW322 := n2_; have GE322 := n3_; clear n0_ n1_ n2_ n3_; clear hb hbox hg; have hcz6_0 : w5.cell? ⟨gb322, 0, none⟩ = some (.bool a0_0) := (blk_cell BK322.out 0).trans rfl; have hcz6_1 : w5.cell? ⟨gb322, 1, none⟩ = some (.bool a0_1) := (blk_cell BK322.out 1).trans rfl; have hcz6_2 : w5.cell? ⟨gb322, 2, none⟩ = some (.int .i64 a0_2) := (blk_cell BK322.out 2).trans rfl; have hcz6_3 : w5.cell? ⟨gb322, 3, none⟩ = some (.bool a0_3) := (blk_cell BK322.out 3).trans rfl; have hcz6_4 : w5.cell? ⟨gb322, 4, none⟩ = some (.bool a0_4) := (blk_cell BK322.out 4).trans rfl; have hcz6_5 : w5.cell? ⟨gb322, 5, none⟩ = some (.bool a0_5) := (blk_cell BK322.out 5).trans rfl; have hcz6_6 : w5.cell? ⟨gb322, 6, none⟩ = some (.bool a0_6) := (blk_cell BK322.out 6).trans rfl; have hcz6_7 : w5.cell? ⟨gb322, 7, none⟩ = some (.int .i64 a0_7) := (blk_cell BK322.out 7).trans rfl; have hcz6_8 : w5.cell? ⟨gb322, 8, none⟩ = some (.bool a0_8) := (blk_cell BK322.out 8).trans rfl; have hcz6_9 : w5.cell? ⟨gb322, 9, none⟩ = some (.bool a0_9) := (blk_cell BK322.out 9).trans rfl; have hcz6_10 : w5.cell? ⟨gb322, 10, none⟩ = some (.bool a0_10) := (blk_cell BK322.out 10).trans rfl; have hcz6_11 : w5.cell? ⟨gb322, 11, none⟩ = some (.bool a0_11) := (blk_cell BK322.out 11).trans rfl; have hcz6_12 : w5.cell? ⟨gb322, 12, none⟩ = some (.bool a0_12) := (blk_cell BK322.out 12).trans rfl; have hcz6_13 : w5.cell? ⟨gb322, 13, none⟩ = some (.bool a0_13) := (blk_cell BK322.out 13).trans rfl; have hcz6_14 : w5.cell? ⟨gb322, 14, none⟩ = some (.bool a0_14) := (blk_cell BK322.out 14).trans rfl; have hcz6_15 : w5.cell? ⟨gb322, 15, none⟩ = some (.bool a0_15) := (blk_cell BK322.out 15).trans rfl; have hcz6_16 : w5.cell? ⟨gb322, 16, none⟩ = some (.int .i64 a0_16) := (blk_cell BK322.out 16).trans rfl; have hfz6_0 := blk_frozen BK322.out 0; have hfz6_1 := blk_frozen BK322.out 1; have hfz6_2 := blk_frozen BK322.out 2; have hfz6_3 := blk_frozen BK322.out 3; have hfz6_4 := blk_frozen BK322.out 4; have hfz6_5 := blk_frozen BK322.out 5; have hfz6_6 := blk_frozen BK322.out 6; have hfz6_7 := blk_frozen BK322.out 7; have hfz6_8 := blk_frozen BK322.out 8; have hfz6_9 := blk_frozen BK322.out 9; have hfz6_10 := blk_frozen BK322.out 10; have hfz6_11 := blk_frozen BK322.out 11; have hfz6_12 := blk_frozen BK322.out 12; have hfz6_13 := blk_frozen BK322.out 13; have hfz6_14 := blk_frozen BK322.out 14; have hfz6_15 := blk_frozen BK322.out 15; have hfz6_16 := blk_frozen BK322.out 16) | ((with_reducible refine gate_callee (f := 13) rfl ?_); refine goesL_ (some 7) rfl rfl Try.func13 (by kernel_rfl) rfl #[.agg #[.bool a0_0, .bool a0_1, .int .i64 a0_2, .bool a0_3, .bool a0_4, .bool a0_5, .bool a0_6, .int .i64 a0_7, .bool a0_8, .bool a0_9, .bool a0_10, .bool a0_11, .bool a0_12, .bool a0_13, .bool a0_14, .bool a0_15, .int .i64 a0_16]] rfl (by (try simp only [List.map_toArray, List.map_cons, List.map_nil]); first | done | rfl | (simp only [List.length_drop, List.length_take]; rfl)) ?_; (with_reducible refine (faultplan_Plan.calls k a0_0 a0_1 a0_2 a0_3 a0_4 a0_5 a0_6 a0_7 a0_8 a0_9 a0_10 a0_11 a0_12 a0_13 a0_14 a0_15 a0_16 t323 t324 t325 t326 t327 t328 _ A2.out).mono ?_); rintro e w7 ⟨rfl, hb⟩; refine ⟨_, rfl, ?_⟩; have n0_ := Aside0.mk (blk_below (g := gb322) (o := .cells #[.bool a0_0, .bool a0_1, .int .i64 a0_2, .bool a0_3, .bool a0_4, .bool a0_5, .bool a0_6, .int .i64 a0_7, .bool a0_8, .bool a0_9, .bool a0_10, .bool a0_11, .bool a0_12, .bool a0_13, .bool a0_14, .bool a0_15, .int .i64 a0_16] 23 (0, 0)) (by (with_reducible repeat (first | refine blk_drewN ?_ _ | refine blk_drew ?_ | refine blk_alloc ?_ _)); exact BK322.out) hb); have n1_ := Aside0.mk (below_step (by repeat (first | (with_reducible first | exact HB.out | apply below_alloc | apply pw_below_drewN | apply below_drew1 | refine below_set ?_ GE322.out) | exact HB.out)) hb); clear BK322; clear HB; have BK322 := n0_; have HB := n1_; clear n0_ n1_; (try clear hb); (try clear hb2); (try clear hk); (try clear hi)) | ((with_reducible refine gate_dst (N := 3) rfl ?_); refine box_event ?hg (N := 3) ?hd (cs := #[.int .i64 0, .int .i64 0, .int .i64 0, .int .i64 0, .int .i64 0]) (t := 28) ?hr ?_; (case hd => rfl); (case hg => rfl); (case hr => first | (go_simp; done) | (go_simp; rfl)); intro gb329 hg w8 hbox hb; have n0_ := Aside0.mk (blk_below (g := gb322) (o := .cells #[.bool a0_0, .bool a0_1, .int .i64 a0_2, .bool a0_3, .bool a0_4, .bool a0_5, .bool a0_6, .int .i64 a0_7, .bool a0_8, .bool a0_9, .bool a0_10, .bool a0_11, .bool a0_12, .bool a0_13, .bool a0_14, .bool a0_15, .int .i64 a0_16] 23 (0, 0)) (by (with_reducible repeat (first | refine blk_drewN ?_ _ | refine blk_drew ?_ | refine blk_alloc ?_ _)); exact BK322.out) hb); have n1_ := Aside0.mk (below_step (by repeat (first | (with_reducible first | exact HB.out | apply below_alloc | apply pw_below_drewN | apply below_drew1 | refine below_set ?_ GE322.out) | exact HB.out)) hb); have n2_ := Aside0.mk (hbox); have n3_ := Aside0.mk ((by rw [hg]; exact (below_size (by repeat (first | (with_reducible first | exact HB.out | apply below_alloc | apply pw_below_drewN | apply below_drew1 | refine below_set ?_ GE322.out) | exact HB.out))) : w.heap.size ≤ gb329)); have n4_ := Aside0.mk ((by rw [hg]; exact (below_size (by repeat (first | (with_reducible first | exact HB.out | apply below_alloc | apply pw_below_drewN | apply below_drew1 | refine below_set ?_ GE322.out) | exact HB.out))) : w.heap.size ≤ gb329)); have n5_ := Aside0.mk ((by rw [hg]; exact Nat.ne_of_lt (blk_lt (g := gb322) (o := .cells #[.bool a0_0, .bool a0_1, .int .i64 a0_2, .bool a0_3, .bool a0_4, .bool a0_5, .bool a0_6, .int .i64 a0_7, .bool a0_8, .bool a0_9, .bool a0_10, .bool a0_11, .bool a0_12, .bool a0_13, .bool a0_14, .bool a0_15, .int .i64 a0_16] 23 (0, 0)) (by (with_reducible repeat (first | refine blk_drewN ?_ _ | refine blk_drew ?_ | refine blk_alloc ?_ _)); exact BK322.out)) : gb322 ≠ gb329)); have n6_ := Aside0.mk ((by rw [hg]; exact Nat.ne_of_gt (blk_lt (g := gb322) (o := .cells #[.bool a0_0, .bool a0_1, .int .i64 a0_2, .bool a0_3, .bool a0_4, .bool a0_5, .bool a0_6, .int .i64 a0_7, .bool a0_8, .bool a0_9, .bool a0_10, .bool a0_11, .bool a0_12, .bool a0_13, .bool a0_14, .bool a0_15, .int .i64 a0_16] 23 (0, 0)) (by (with_reducible repeat (first | refine blk_drewN ?_ _ | refine blk_drew ?_ | refine blk_alloc ?_ _)); exact BK322.out)) : gb329 ≠ gb322)); clear BK322; clear HB; have BK322 := n0_; have HB := n1_; have BK329 := n2_; have GW329 := n3_; have GE329 := n4_; have NB322_329 := n5_; have NB329_322 := n6_; clear n0_ n1_ n2_ n3_ n4_ n5_ n6_; clear hb hbox hg; have hnb9 := NB329_322.out; have hnc9 := NB322_329.out; have hcz10_0 : w8.cell? ⟨gb329, 0, none⟩ = some (.int .i64 0) := (blk_cell BK329.out 0).trans rfl; have hcz10_1 : w8.cell? ⟨gb329, 1, none⟩ = some (.int .i64 0) := (blk_cell BK329.out 1).trans rfl; have hcz10_2 : w8.cell? ⟨gb329, 2, none⟩ = some (.int .i64 0) := (blk_cell BK329.out 2).trans rfl; have hcz10_3 : w8.cell? ⟨gb329, 3, none⟩ = some (.int .i64 0) := (blk_cell BK329.out 3).trans rfl; have hcz10_4 : w8.cell? ⟨gb329, 4, none⟩ = some (.int .i64 0) := (blk_cell BK329.out 4).trans rfl; have hfz10_0 := blk_frozen BK329.out 0; have hfz10_1 := blk_frozen BK329.out 1; have hfz10_2 := blk_frozen BK329.out 2; have hfz10_3 := blk_frozen BK329.out 3; have hfz10_4 := blk_frozen BK329.out 4))
    (try simp only [Act.put, List.setIfInBounds_toArray, List.set_cons_zero, List.set_cons_succ])
    go_cut [55] (fun v55 wc => ∃ (kq : Nat) (x55_3 : Bool), v55 = .bool x55_3 ∧ Aside0 (estoverslaw26_FaultplanNeeds.j0 kq x55_3 t323 t324 t325 t326 t327 = some r) ∧ Aside0 (kq ≤ k) ∧ Aside0 (wc.heap[gb322]? = some (.cells #[.bool a0_0, .bool a0_1, .int .i64 a0_2, .bool a0_3, .bool a0_4, .bool a0_5, .bool a0_6, .int .i64 a0_7, .bool a0_8, .bool a0_9, .bool a0_10, .bool a0_11, .bool a0_12, .bool a0_13, .bool a0_14, .bool a0_15, .int .i64 a0_16] 23 (0, 0))) ∧ Aside0 (wc.heap[gb329]? = some (.cells #[.int .i64 t323, .int .i64 t324, .int .i64 t325, .int .i64 t326, .int .i64 t327] 28 (0, 0))) ∧ Aside0 (Below w.heap.size w wc))
    case first =>
      have H := HC4.out
      clear HC4
      by_cases c11 : t327 < 0
      · rw [if_pos c11] at H
        have c11b0 : decide (t327 < 0) = true := decide_eq_true c11
        clear c11
        (first | rw [c11b0] | (simp only [i64_w, i32_w]; rw [c11b0]) | skip)
        have H' := Aside0.mk H
        clear H
        have hnb12 := NB329_322.out
        have hnc12 := NB322_329.out
        have hcz13_0 : w8.cell? ⟨gb329, 0, none⟩ = some (.int .i64 0) := (blk_cell BK329.out 0).trans rfl
        have hcz13_1 : w8.cell? ⟨gb329, 1, none⟩ = some (.int .i64 0) := (blk_cell BK329.out 1).trans rfl
        have hcz13_2 : w8.cell? ⟨gb329, 2, none⟩ = some (.int .i64 0) := (blk_cell BK329.out 2).trans rfl
        have hcz13_3 : w8.cell? ⟨gb329, 3, none⟩ = some (.int .i64 0) := (blk_cell BK329.out 3).trans rfl
        have hcz13_4 : w8.cell? ⟨gb329, 4, none⟩ = some (.int .i64 0) := (blk_cell BK329.out 4).trans rfl
        have hfz13_0 := blk_frozen BK329.out 0
        have hfz13_1 := blk_frozen BK329.out 1
        have hfz13_2 := blk_frozen BK329.out 2
        have hfz13_3 := blk_frozen BK329.out 3
        have hfz13_4 := blk_frozen BK329.out 4
        go_wp2
        go_meet
        case rel => exact ⟨_, (true), (by first | rfl | (simp; done) | (simp [*]; done)), H', ⟨by first | omega | exact Nat.le_refl _⟩, ⟨by (with_reducible repeat (first | refine blk_drewN ?_ _ | refine blk_drew ?_ | refine blk_alloc ?_ _)); refine blk_far ?_ NB322_329.out _; (with_reducible repeat (first | refine blk_drewN ?_ _ | refine blk_drew ?_ | refine blk_alloc ?_ _)); refine blk_far ?_ NB322_329.out _; (with_reducible repeat (first | refine blk_drewN ?_ _ | refine blk_drew ?_ | refine blk_alloc ?_ _)); refine blk_far ?_ NB322_329.out _; (with_reducible repeat (first | refine blk_drewN ?_ _ | refine blk_drew ?_ | refine blk_alloc ?_ _)); refine blk_far ?_ NB322_329.out _; (with_reducible repeat (first | refine blk_drewN ?_ _ | refine blk_drew ?_ | refine blk_alloc ?_ _)); refine blk_far ?_ NB322_329.out _; (with_reducible repeat (first | refine blk_drewN ?_ _ | refine blk_drew ?_ | refine blk_alloc ?_ _)); exact BK322.out⟩, ⟨by (with_reducible repeat (first | refine blk_drewN ?_ _ | refine blk_drew ?_ | refine blk_alloc ?_ _)); refine blk_put (cs := #[.int .i64 t323, .int .i64 t324, .int .i64 t325, .int .i64 t326, .int .i64 0]) ?_ 4 _ rfl; (with_reducible repeat (first | refine blk_drewN ?_ _ | refine blk_drew ?_ | refine blk_alloc ?_ _)); refine blk_put (cs := #[.int .i64 t323, .int .i64 t324, .int .i64 t325, .int .i64 0, .int .i64 0]) ?_ 3 _ rfl; (with_reducible repeat (first | refine blk_drewN ?_ _ | refine blk_drew ?_ | refine blk_alloc ?_ _)); refine blk_put (cs := #[.int .i64 t323, .int .i64 t324, .int .i64 0, .int .i64 0, .int .i64 0]) ?_ 2 _ rfl; (with_reducible repeat (first | refine blk_drewN ?_ _ | refine blk_drew ?_ | refine blk_alloc ?_ _)); refine blk_put (cs := #[.int .i64 t323, .int .i64 0, .int .i64 0, .int .i64 0, .int .i64 0]) ?_ 1 _ rfl; (with_reducible repeat (first | refine blk_drewN ?_ _ | refine blk_drew ?_ | refine blk_alloc ?_ _)); refine blk_put (cs := #[.int .i64 0, .int .i64 0, .int .i64 0, .int .i64 0, .int .i64 0]) ?_ 0 _ rfl; (with_reducible repeat (first | refine blk_drewN ?_ _ | refine blk_drew ?_ | refine blk_alloc ?_ _)); exact BK329.out⟩, ⟨by repeat (first | (with_reducible first | exact HB.out | apply below_alloc | apply pw_below_drewN | apply below_drew1 | refine below_set ?_ GE322.out | refine below_set ?_ GE329.out) | exact HB.out)⟩⟩
      · rw [if_neg c11] at H
        have c11b0 : decide (t327 < 0) = false := decide_eq_false c11
        clear c11
        (first | rw [c11b0] | (simp only [i64_w, i32_w]; rw [c11b0]) | skip)
        by_cases c14 : t327 > 1
        · rw [if_pos c14] at H
          have c14b0 : decide (1 < t327) = true := decide_eq_true c14
          clear c14
          have H' := Aside0.mk H
          clear H
          have hnb15 := NB329_322.out
          have hnc15 := NB322_329.out
          have hcz16_0 : w8.cell? ⟨gb329, 0, none⟩ = some (.int .i64 0) := (blk_cell BK329.out 0).trans rfl
          have hcz16_1 : w8.cell? ⟨gb329, 1, none⟩ = some (.int .i64 0) := (blk_cell BK329.out 1).trans rfl
          have hcz16_2 : w8.cell? ⟨gb329, 2, none⟩ = some (.int .i64 0) := (blk_cell BK329.out 2).trans rfl
          have hcz16_3 : w8.cell? ⟨gb329, 3, none⟩ = some (.int .i64 0) := (blk_cell BK329.out 3).trans rfl
          have hcz16_4 : w8.cell? ⟨gb329, 4, none⟩ = some (.int .i64 0) := (blk_cell BK329.out 4).trans rfl
          have hfz16_0 := blk_frozen BK329.out 0
          have hfz16_1 := blk_frozen BK329.out 1
          have hfz16_2 := blk_frozen BK329.out 2
          have hfz16_3 := blk_frozen BK329.out 3
          have hfz16_4 := blk_frozen BK329.out 4
          go_wp2
          go_meet
          case rel => exact ⟨_, (true), (by first | rfl | (simp; done) | (simp [*]; done)), H', ⟨by first | omega | exact Nat.le_refl _⟩, ⟨by (with_reducible repeat (first | refine blk_drewN ?_ _ | refine blk_drew ?_ | refine blk_alloc ?_ _)); refine blk_far ?_ NB322_329.out _; (with_reducible repeat (first | refine blk_drewN ?_ _ | refine blk_drew ?_ | refine blk_alloc ?_ _)); refine blk_far ?_ NB322_329.out _; (with_reducible repeat (first | refine blk_drewN ?_ _ | refine blk_drew ?_ | refine blk_alloc ?_ _)); refine blk_far ?_ NB322_329.out _; (with_reducible repeat (first | refine blk_drewN ?_ _ | refine blk_drew ?_ | refine blk_alloc ?_ _)); refine blk_far ?_ NB322_329.out _; (with_reducible repeat (first | refine blk_drewN ?_ _ | refine blk_drew ?_ | refine blk_alloc ?_ _)); refine blk_far ?_ NB322_329.out _; (with_reducible repeat (first | refine blk_drewN ?_ _ | refine blk_drew ?_ | refine blk_alloc ?_ _)); exact BK322.out⟩, ⟨by (with_reducible repeat (first | refine blk_drewN ?_ _ | refine blk_drew ?_ | refine blk_alloc ?_ _)); refine blk_put (cs := #[.int .i64 t323, .int .i64 t324, .int .i64 t325, .int .i64 t326, .int .i64 0]) ?_ 4 _ rfl; (with_reducible repeat (first | refine blk_drewN ?_ _ | refine blk_drew ?_ | refine blk_alloc ?_ _)); refine blk_put (cs := #[.int .i64 t323, .int .i64 t324, .int .i64 t325, .int .i64 0, .int .i64 0]) ?_ 3 _ rfl; (with_reducible repeat (first | refine blk_drewN ?_ _ | refine blk_drew ?_ | refine blk_alloc ?_ _)); refine blk_put (cs := #[.int .i64 t323, .int .i64 t324, .int .i64 0, .int .i64 0, .int .i64 0]) ?_ 2 _ rfl; (with_reducible repeat (first | refine blk_drewN ?_ _ | refine blk_drew ?_ | refine blk_alloc ?_ _)); refine blk_put (cs := #[.int .i64 t323, .int .i64 0, .int .i64 0, .int .i64 0, .int .i64 0]) ?_ 1 _ rfl; (with_reducible repeat (first | refine blk_drewN ?_ _ | refine blk_drew ?_ | refine blk_alloc ?_ _)); refine blk_put (cs := #[.int .i64 0, .int .i64 0, .int .i64 0, .int .i64 0, .int .i64 0]) ?_ 0 _ rfl; (with_reducible repeat (first | refine blk_drewN ?_ _ | refine blk_drew ?_ | refine blk_alloc ?_ _)); exact BK329.out⟩, ⟨by repeat (first | (with_reducible first | exact HB.out | apply below_alloc | apply pw_below_drewN | apply below_drew1 | refine below_set ?_ GE322.out | refine below_set ?_ GE329.out) | exact HB.out)⟩⟩
        · rw [if_neg c14] at H
          have c14b0 : decide (1 < t327) = false := decide_eq_false c14
          clear c14
          by_cases c17 : t326 = 0
          · rw [if_pos c17] at H
            have c17b0 : (t326 == 0) = true := beq_iff_eq.mpr c17
            have c17b1 : (t326 != 0) = false := bne_eq_false_iff_eq.mpr c17
            clear c17
            by_cases c18 : t324 = 0
            · rw [if_pos c18] at H
              have c18b0 : (t324 == 0) = true := beq_iff_eq.mpr c18
              have c18b1 : (t324 != 0) = false := bne_eq_false_iff_eq.mpr c18
              clear c18
              by_cases c19 : t323 = 1
              · rw [if_pos c19] at H
                have c19b0 : (t323 == 1) = true := beq_iff_eq.mpr c19
                have c19b1 : (t323 != 1) = false := bne_eq_false_iff_eq.mpr c19
                clear c19
                have H' := Aside0.mk H
                clear H
                have hnb20 := NB329_322.out
                have hnc20 := NB322_329.out
                have hcz21_0 : w8.cell? ⟨gb329, 0, none⟩ = some (.int .i64 0) := (blk_cell BK329.out 0).trans rfl
                have hcz21_1 : w8.cell? ⟨gb329, 1, none⟩ = some (.int .i64 0) := (blk_cell BK329.out 1).trans rfl
                have hcz21_2 : w8.cell? ⟨gb329, 2, none⟩ = some (.int .i64 0) := (blk_cell BK329.out 2).trans rfl
                have hcz21_3 : w8.cell? ⟨gb329, 3, none⟩ = some (.int .i64 0) := (blk_cell BK329.out 3).trans rfl
                have hcz21_4 : w8.cell? ⟨gb329, 4, none⟩ = some (.int .i64 0) := (blk_cell BK329.out 4).trans rfl
                have hfz21_0 := blk_frozen BK329.out 0
                have hfz21_1 := blk_frozen BK329.out 1
                have hfz21_2 := blk_frozen BK329.out 2
                have hfz21_3 := blk_frozen BK329.out 3
                have hfz21_4 := blk_frozen BK329.out 4
                go_wp2
                go_meet
                case rel => exact ⟨_, (true), (by first | rfl | (simp; done) | (simp [*]; done)), H', ⟨by first | omega | exact Nat.le_refl _⟩, ⟨by (with_reducible repeat (first | refine blk_drewN ?_ _ | refine blk_drew ?_ | refine blk_alloc ?_ _)); refine blk_far ?_ NB322_329.out _; (with_reducible repeat (first | refine blk_drewN ?_ _ | refine blk_drew ?_ | refine blk_alloc ?_ _)); refine blk_far ?_ NB322_329.out _; (with_reducible repeat (first | refine blk_drewN ?_ _ | refine blk_drew ?_ | refine blk_alloc ?_ _)); refine blk_far ?_ NB322_329.out _; (with_reducible repeat (first | refine blk_drewN ?_ _ | refine blk_drew ?_ | refine blk_alloc ?_ _)); refine blk_far ?_ NB322_329.out _; (with_reducible repeat (first | refine blk_drewN ?_ _ | refine blk_drew ?_ | refine blk_alloc ?_ _)); refine blk_far ?_ NB322_329.out _; (with_reducible repeat (first | refine blk_drewN ?_ _ | refine blk_drew ?_ | refine blk_alloc ?_ _)); exact BK322.out⟩, ⟨by (with_reducible repeat (first | refine blk_drewN ?_ _ | refine blk_drew ?_ | refine blk_alloc ?_ _)); refine blk_put (cs := #[.int .i64 t323, .int .i64 t324, .int .i64 t325, .int .i64 t326, .int .i64 0]) ?_ 4 _ rfl; (with_reducible repeat (first | refine blk_drewN ?_ _ | refine blk_drew ?_ | refine blk_alloc ?_ _)); refine blk_put (cs := #[.int .i64 t323, .int .i64 t324, .int .i64 t325, .int .i64 0, .int .i64 0]) ?_ 3 _ rfl; (with_reducible repeat (first | refine blk_drewN ?_ _ | refine blk_drew ?_ | refine blk_alloc ?_ _)); refine blk_put (cs := #[.int .i64 t323, .int .i64 t324, .int .i64 0, .int .i64 0, .int .i64 0]) ?_ 2 _ rfl; (with_reducible repeat (first | refine blk_drewN ?_ _ | refine blk_drew ?_ | refine blk_alloc ?_ _)); refine blk_put (cs := #[.int .i64 t323, .int .i64 0, .int .i64 0, .int .i64 0, .int .i64 0]) ?_ 1 _ rfl; (with_reducible repeat (first | refine blk_drewN ?_ _ | refine blk_drew ?_ | refine blk_alloc ?_ _)); refine blk_put (cs := #[.int .i64 0, .int .i64 0, .int .i64 0, .int .i64 0, .int .i64 0]) ?_ 0 _ rfl; (with_reducible repeat (first | refine blk_drewN ?_ _ | refine blk_drew ?_ | refine blk_alloc ?_ _)); exact BK329.out⟩, ⟨by repeat (first | (with_reducible first | exact HB.out | apply below_alloc | apply pw_below_drewN | apply below_drew1 | refine below_set ?_ GE322.out | refine below_set ?_ GE329.out) | exact HB.out)⟩⟩
              · rw [if_neg c19] at H
                have c19b0 : (t323 == 1) = false := beq_eq_false_iff_ne.mpr c19
                have c19b1 : (t323 != 1) = true := bne_iff_ne.mpr c19
                by_cases c22 : t325 = 0
                · rw [if_pos c22] at H
                  have c22b0 : (t325 == 0) = true := beq_iff_eq.mpr c22
                  have c22b1 : (t325 != 0) = false := bne_eq_false_iff_eq.mpr c22
                  clear c22
                  by_cases c23 : t323 = 2
                  · rw [if_pos c23] at H
                    have c23b0 : (t323 == 2) = true := beq_iff_eq.mpr c23
                    have c23b1 : (t323 != 2) = false := bne_eq_false_iff_eq.mpr c23
                    clear c23
                    have H' := Aside0.mk H
                    clear H
                    have hnb24 := NB329_322.out
                    have hnc24 := NB322_329.out
                    have hcz25_0 : w8.cell? ⟨gb329, 0, none⟩ = some (.int .i64 0) := (blk_cell BK329.out 0).trans rfl
                    have hcz25_1 : w8.cell? ⟨gb329, 1, none⟩ = some (.int .i64 0) := (blk_cell BK329.out 1).trans rfl
                    have hcz25_2 : w8.cell? ⟨gb329, 2, none⟩ = some (.int .i64 0) := (blk_cell BK329.out 2).trans rfl
                    have hcz25_3 : w8.cell? ⟨gb329, 3, none⟩ = some (.int .i64 0) := (blk_cell BK329.out 3).trans rfl
                    have hcz25_4 : w8.cell? ⟨gb329, 4, none⟩ = some (.int .i64 0) := (blk_cell BK329.out 4).trans rfl
                    have hfz25_0 := blk_frozen BK329.out 0
                    have hfz25_1 := blk_frozen BK329.out 1
                    have hfz25_2 := blk_frozen BK329.out 2
                    have hfz25_3 := blk_frozen BK329.out 3
                    have hfz25_4 := blk_frozen BK329.out 4
                    go_wp2
                    go_meet
                    case rel => exact ⟨_, (true), (by first | rfl | (simp; done) | (simp [*]; done)), H', ⟨by first | omega | exact Nat.le_refl _⟩, ⟨by (with_reducible repeat (first | refine blk_drewN ?_ _ | refine blk_drew ?_ | refine blk_alloc ?_ _)); refine blk_far ?_ NB322_329.out _; (with_reducible repeat (first | refine blk_drewN ?_ _ | refine blk_drew ?_ | refine blk_alloc ?_ _)); refine blk_far ?_ NB322_329.out _; (with_reducible repeat (first | refine blk_drewN ?_ _ | refine blk_drew ?_ | refine blk_alloc ?_ _)); refine blk_far ?_ NB322_329.out _; (with_reducible repeat (first | refine blk_drewN ?_ _ | refine blk_drew ?_ | refine blk_alloc ?_ _)); refine blk_far ?_ NB322_329.out _; (with_reducible repeat (first | refine blk_drewN ?_ _ | refine blk_drew ?_ | refine blk_alloc ?_ _)); refine blk_far ?_ NB322_329.out _; (with_reducible repeat (first | refine blk_drewN ?_ _ | refine blk_drew ?_ | refine blk_alloc ?_ _)); exact BK322.out⟩, ⟨by (with_reducible repeat (first | refine blk_drewN ?_ _ | refine blk_drew ?_ | refine blk_alloc ?_ _)); refine blk_put (cs := #[.int .i64 t323, .int .i64 t324, .int .i64 t325, .int .i64 t326, .int .i64 0]) ?_ 4 _ rfl; (with_reducible repeat (first | refine blk_drewN ?_ _ | refine blk_drew ?_ | refine blk_alloc ?_ _)); refine blk_put (cs := #[.int .i64 t323, .int .i64 t324, .int .i64 t325, .int .i64 0, .int .i64 0]) ?_ 3 _ rfl; (with_reducible repeat (first | refine blk_drewN ?_ _ | refine blk_drew ?_ | refine blk_alloc ?_ _)); refine blk_put (cs := #[.int .i64 t323, .int .i64 t324, .int .i64 0, .int .i64 0, .int .i64 0]) ?_ 2 _ rfl; (with_reducible repeat (first | refine blk_drewN ?_ _ | refine blk_drew ?_ | refine blk_alloc ?_ _)); refine blk_put (cs := #[.int .i64 t323, .int .i64 0, .int .i64 0, .int .i64 0, .int .i64 0]) ?_ 1 _ rfl; (with_reducible repeat (first | refine blk_drewN ?_ _ | refine blk_drew ?_ | refine blk_alloc ?_ _)); refine blk_put (cs := #[.int .i64 0, .int .i64 0, .int .i64 0, .int .i64 0, .int .i64 0]) ?_ 0 _ rfl; (with_reducible repeat (first | refine blk_drewN ?_ _ | refine blk_drew ?_ | refine blk_alloc ?_ _)); exact BK329.out⟩, ⟨by repeat (first | (with_reducible first | exact HB.out | apply below_alloc | apply pw_below_drewN | apply below_drew1 | refine below_set ?_ GE322.out | refine below_set ?_ GE329.out) | exact HB.out)⟩⟩
                  · rw [if_neg c23] at H
                    have c23b0 : (t323 == 2) = false := beq_eq_false_iff_ne.mpr c23
                    have c23b1 : (t323 != 2) = true := bne_iff_ne.mpr c23
                    have H' := Aside0.mk H
                    clear H
                    have hnb26 := NB329_322.out
                    have hnc26 := NB322_329.out
                    have hcz27_0 : w8.cell? ⟨gb329, 0, none⟩ = some (.int .i64 0) := (blk_cell BK329.out 0).trans rfl
                    have hcz27_1 : w8.cell? ⟨gb329, 1, none⟩ = some (.int .i64 0) := (blk_cell BK329.out 1).trans rfl
                    have hcz27_2 : w8.cell? ⟨gb329, 2, none⟩ = some (.int .i64 0) := (blk_cell BK329.out 2).trans rfl
                    have hcz27_3 : w8.cell? ⟨gb329, 3, none⟩ = some (.int .i64 0) := (blk_cell BK329.out 3).trans rfl
                    have hcz27_4 : w8.cell? ⟨gb329, 4, none⟩ = some (.int .i64 0) := (blk_cell BK329.out 4).trans rfl
                    have hfz27_0 := blk_frozen BK329.out 0
                    have hfz27_1 := blk_frozen BK329.out 1
                    have hfz27_2 := blk_frozen BK329.out 2
                    have hfz27_3 := blk_frozen BK329.out 3
                    have hfz27_4 := blk_frozen BK329.out 4
                    go_wp2
                    go_meet
                    case rel => exact ⟨_, (false), (by first | rfl | (simp; done) | (simp [*]; done)), H', ⟨by first | omega | exact Nat.le_refl _⟩, ⟨by (with_reducible repeat (first | refine blk_drewN ?_ _ | refine blk_drew ?_ | refine blk_alloc ?_ _)); refine blk_far ?_ NB322_329.out _; (with_reducible repeat (first | refine blk_drewN ?_ _ | refine blk_drew ?_ | refine blk_alloc ?_ _)); refine blk_far ?_ NB322_329.out _; (with_reducible repeat (first | refine blk_drewN ?_ _ | refine blk_drew ?_ | refine blk_alloc ?_ _)); refine blk_far ?_ NB322_329.out _; (with_reducible repeat (first | refine blk_drewN ?_ _ | refine blk_drew ?_ | refine blk_alloc ?_ _)); refine blk_far ?_ NB322_329.out _; (with_reducible repeat (first | refine blk_drewN ?_ _ | refine blk_drew ?_ | refine blk_alloc ?_ _)); refine blk_far ?_ NB322_329.out _; (with_reducible repeat (first | refine blk_drewN ?_ _ | refine blk_drew ?_ | refine blk_alloc ?_ _)); exact BK322.out⟩, ⟨by (with_reducible repeat (first | refine blk_drewN ?_ _ | refine blk_drew ?_ | refine blk_alloc ?_ _)); refine blk_put (cs := #[.int .i64 t323, .int .i64 t324, .int .i64 t325, .int .i64 t326, .int .i64 0]) ?_ 4 _ rfl; (with_reducible repeat (first | refine blk_drewN ?_ _ | refine blk_drew ?_ | refine blk_alloc ?_ _)); refine blk_put (cs := #[.int .i64 t323, .int .i64 t324, .int .i64 t325, .int .i64 0, .int .i64 0]) ?_ 3 _ rfl; (with_reducible repeat (first | refine blk_drewN ?_ _ | refine blk_drew ?_ | refine blk_alloc ?_ _)); refine blk_put (cs := #[.int .i64 t323, .int .i64 t324, .int .i64 0, .int .i64 0, .int .i64 0]) ?_ 2 _ rfl; (with_reducible repeat (first | refine blk_drewN ?_ _ | refine blk_drew ?_ | refine blk_alloc ?_ _)); refine blk_put (cs := #[.int .i64 t323, .int .i64 0, .int .i64 0, .int .i64 0, .int .i64 0]) ?_ 1 _ rfl; (with_reducible repeat (first | refine blk_drewN ?_ _ | refine blk_drew ?_ | refine blk_alloc ?_ _)); refine blk_put (cs := #[.int .i64 0, .int .i64 0, .int .i64 0, .int .i64 0, .int .i64 0]) ?_ 0 _ rfl; (with_reducible repeat (first | refine blk_drewN ?_ _ | refine blk_drew ?_ | refine blk_alloc ?_ _)); exact BK329.out⟩, ⟨by repeat (first | (with_reducible first | exact HB.out | apply below_alloc | apply pw_below_drewN | apply below_drew1 | refine below_set ?_ GE322.out | refine below_set ?_ GE329.out) | exact HB.out)⟩⟩
                · rw [if_neg c22] at H
                  have c22b0 : (t325 == 0) = false := beq_eq_false_iff_ne.mpr c22
                  have c22b1 : (t325 != 0) = true := bne_iff_ne.mpr c22
                  by_cases c28 : t323 = 2
                  · rw [if_pos c28] at H
                    have c28b0 : (t323 == 2) = true := beq_iff_eq.mpr c28
                    have c28b1 : (t323 != 2) = false := bne_eq_false_iff_eq.mpr c28
                    clear c28
                    have H' := Aside0.mk H
                    clear H
                    have hnb29 := NB329_322.out
                    have hnc29 := NB322_329.out
                    have hcz30_0 : w8.cell? ⟨gb329, 0, none⟩ = some (.int .i64 0) := (blk_cell BK329.out 0).trans rfl
                    have hcz30_1 : w8.cell? ⟨gb329, 1, none⟩ = some (.int .i64 0) := (blk_cell BK329.out 1).trans rfl
                    have hcz30_2 : w8.cell? ⟨gb329, 2, none⟩ = some (.int .i64 0) := (blk_cell BK329.out 2).trans rfl
                    have hcz30_3 : w8.cell? ⟨gb329, 3, none⟩ = some (.int .i64 0) := (blk_cell BK329.out 3).trans rfl
                    have hcz30_4 : w8.cell? ⟨gb329, 4, none⟩ = some (.int .i64 0) := (blk_cell BK329.out 4).trans rfl
                    have hfz30_0 := blk_frozen BK329.out 0
                    have hfz30_1 := blk_frozen BK329.out 1
                    have hfz30_2 := blk_frozen BK329.out 2
                    have hfz30_3 := blk_frozen BK329.out 3
                    have hfz30_4 := blk_frozen BK329.out 4
                    go_wp2
                    go_meet
                    case rel => exact ⟨_, (false), (by first | rfl | (simp; done) | (simp [*]; done)), H', ⟨by first | omega | exact Nat.le_refl _⟩, ⟨by (with_reducible repeat (first | refine blk_drewN ?_ _ | refine blk_drew ?_ | refine blk_alloc ?_ _)); refine blk_far ?_ NB322_329.out _; (with_reducible repeat (first | refine blk_drewN ?_ _ | refine blk_drew ?_ | refine blk_alloc ?_ _)); refine blk_far ?_ NB322_329.out _; (with_reducible repeat (first | refine blk_drewN ?_ _ | refine blk_drew ?_ | refine blk_alloc ?_ _)); refine blk_far ?_ NB322_329.out _; (with_reducible repeat (first | refine blk_drewN ?_ _ | refine blk_drew ?_ | refine blk_alloc ?_ _)); refine blk_far ?_ NB322_329.out _; (with_reducible repeat (first | refine blk_drewN ?_ _ | refine blk_drew ?_ | refine blk_alloc ?_ _)); refine blk_far ?_ NB322_329.out _; (with_reducible repeat (first | refine blk_drewN ?_ _ | refine blk_drew ?_ | refine blk_alloc ?_ _)); exact BK322.out⟩, ⟨by (with_reducible repeat (first | refine blk_drewN ?_ _ | refine blk_drew ?_ | refine blk_alloc ?_ _)); refine blk_put (cs := #[.int .i64 t323, .int .i64 t324, .int .i64 t325, .int .i64 t326, .int .i64 0]) ?_ 4 _ rfl; (with_reducible repeat (first | refine blk_drewN ?_ _ | refine blk_drew ?_ | refine blk_alloc ?_ _)); refine blk_put (cs := #[.int .i64 t323, .int .i64 t324, .int .i64 t325, .int .i64 0, .int .i64 0]) ?_ 3 _ rfl; (with_reducible repeat (first | refine blk_drewN ?_ _ | refine blk_drew ?_ | refine blk_alloc ?_ _)); refine blk_put (cs := #[.int .i64 t323, .int .i64 t324, .int .i64 0, .int .i64 0, .int .i64 0]) ?_ 2 _ rfl; (with_reducible repeat (first | refine blk_drewN ?_ _ | refine blk_drew ?_ | refine blk_alloc ?_ _)); refine blk_put (cs := #[.int .i64 t323, .int .i64 0, .int .i64 0, .int .i64 0, .int .i64 0]) ?_ 1 _ rfl; (with_reducible repeat (first | refine blk_drewN ?_ _ | refine blk_drew ?_ | refine blk_alloc ?_ _)); refine blk_put (cs := #[.int .i64 0, .int .i64 0, .int .i64 0, .int .i64 0, .int .i64 0]) ?_ 0 _ rfl; (with_reducible repeat (first | refine blk_drewN ?_ _ | refine blk_drew ?_ | refine blk_alloc ?_ _)); exact BK329.out⟩, ⟨by repeat (first | (with_reducible first | exact HB.out | apply below_alloc | apply pw_below_drewN | apply below_drew1 | refine below_set ?_ GE322.out | refine below_set ?_ GE329.out) | exact HB.out)⟩⟩
                  · rw [if_neg c28] at H
                    have c28b0 : (t323 == 2) = false := beq_eq_false_iff_ne.mpr c28
                    have c28b1 : (t323 != 2) = true := bne_iff_ne.mpr c28
                    have H' := Aside0.mk H
                    clear H
                    have hnb31 := NB329_322.out
                    have hnc31 := NB322_329.out
                    have hcz32_0 : w8.cell? ⟨gb329, 0, none⟩ = some (.int .i64 0) := (blk_cell BK329.out 0).trans rfl
                    have hcz32_1 : w8.cell? ⟨gb329, 1, none⟩ = some (.int .i64 0) := (blk_cell BK329.out 1).trans rfl
                    have hcz32_2 : w8.cell? ⟨gb329, 2, none⟩ = some (.int .i64 0) := (blk_cell BK329.out 2).trans rfl
                    have hcz32_3 : w8.cell? ⟨gb329, 3, none⟩ = some (.int .i64 0) := (blk_cell BK329.out 3).trans rfl
                    have hcz32_4 : w8.cell? ⟨gb329, 4, none⟩ = some (.int .i64 0) := (blk_cell BK329.out 4).trans rfl
                    have hfz32_0 := blk_frozen BK329.out 0
                    have hfz32_1 := blk_frozen BK329.out 1
                    have hfz32_2 := blk_frozen BK329.out 2
                    have hfz32_3 := blk_frozen BK329.out 3
                    have hfz32_4 := blk_frozen BK329.out 4
                    go_wp2
                    go_meet
                    case rel => exact ⟨_, (true), (by first | rfl | (simp; done) | (simp [*]; done)), H', ⟨by first | omega | exact Nat.le_refl _⟩, ⟨by (with_reducible repeat (first | refine blk_drewN ?_ _ | refine blk_drew ?_ | refine blk_alloc ?_ _)); refine blk_far ?_ NB322_329.out _; (with_reducible repeat (first | refine blk_drewN ?_ _ | refine blk_drew ?_ | refine blk_alloc ?_ _)); refine blk_far ?_ NB322_329.out _; (with_reducible repeat (first | refine blk_drewN ?_ _ | refine blk_drew ?_ | refine blk_alloc ?_ _)); refine blk_far ?_ NB322_329.out _; (with_reducible repeat (first | refine blk_drewN ?_ _ | refine blk_drew ?_ | refine blk_alloc ?_ _)); refine blk_far ?_ NB322_329.out _; (with_reducible repeat (first | refine blk_drewN ?_ _ | refine blk_drew ?_ | refine blk_alloc ?_ _)); refine blk_far ?_ NB322_329.out _; (with_reducible repeat (first | refine blk_drewN ?_ _ | refine blk_drew ?_ | refine blk_alloc ?_ _)); exact BK322.out⟩, ⟨by (with_reducible repeat (first | refine blk_drewN ?_ _ | refine blk_drew ?_ | refine blk_alloc ?_ _)); refine blk_put (cs := #[.int .i64 t323, .int .i64 t324, .int .i64 t325, .int .i64 t326, .int .i64 0]) ?_ 4 _ rfl; (with_reducible repeat (first | refine blk_drewN ?_ _ | refine blk_drew ?_ | refine blk_alloc ?_ _)); refine blk_put (cs := #[.int .i64 t323, .int .i64 t324, .int .i64 t325, .int .i64 0, .int .i64 0]) ?_ 3 _ rfl; (with_reducible repeat (first | refine blk_drewN ?_ _ | refine blk_drew ?_ | refine blk_alloc ?_ _)); refine blk_put (cs := #[.int .i64 t323, .int .i64 t324, .int .i64 0, .int .i64 0, .int .i64 0]) ?_ 2 _ rfl; (with_reducible repeat (first | refine blk_drewN ?_ _ | refine blk_drew ?_ | refine blk_alloc ?_ _)); refine blk_put (cs := #[.int .i64 t323, .int .i64 0, .int .i64 0, .int .i64 0, .int .i64 0]) ?_ 1 _ rfl; (with_reducible repeat (first | refine blk_drewN ?_ _ | refine blk_drew ?_ | refine blk_alloc ?_ _)); refine blk_put (cs := #[.int .i64 0, .int .i64 0, .int .i64 0, .int .i64 0, .int .i64 0]) ?_ 0 _ rfl; (with_reducible repeat (first | refine blk_drewN ?_ _ | refine blk_drew ?_ | refine blk_alloc ?_ _)); exact BK329.out⟩, ⟨by repeat (first | (with_reducible first | exact HB.out | apply below_alloc | apply pw_below_drewN | apply below_drew1 | refine below_set ?_ GE322.out | refine below_set ?_ GE329.out) | exact HB.out)⟩⟩
            · rw [if_neg c18] at H
              have c18b0 : (t324 == 0) = false := beq_eq_false_iff_ne.mpr c18
              have c18b1 : (t324 != 0) = true := bne_iff_ne.mpr c18
              by_cases c33 : t323 = 1
              · rw [if_pos c33] at H
                have c33b0 : (t323 == 1) = true := beq_iff_eq.mpr c33
                have c33b1 : (t323 != 1) = false := bne_eq_false_iff_eq.mpr c33
                clear c33
                by_cases c34 : t325 = 0
                · rw [if_pos c34] at H
                  have c34b0 : (t325 == 0) = true := beq_iff_eq.mpr c34
                  have c34b1 : (t325 != 0) = false := bne_eq_false_iff_eq.mpr c34
                  clear c34
                  by_cases c35 : t323 = 2
                  · rw [if_pos c35] at H
                    have c35b0 : (t323 == 2) = true := beq_iff_eq.mpr c35
                    have c35b1 : (t323 != 2) = false := bne_eq_false_iff_eq.mpr c35
                    clear c35
                    have H' := Aside0.mk H
                    clear H
                    have hnb36 := NB329_322.out
                    have hnc36 := NB322_329.out
                    have hcz37_0 : w8.cell? ⟨gb329, 0, none⟩ = some (.int .i64 0) := (blk_cell BK329.out 0).trans rfl
                    have hcz37_1 : w8.cell? ⟨gb329, 1, none⟩ = some (.int .i64 0) := (blk_cell BK329.out 1).trans rfl
                    have hcz37_2 : w8.cell? ⟨gb329, 2, none⟩ = some (.int .i64 0) := (blk_cell BK329.out 2).trans rfl
                    have hcz37_3 : w8.cell? ⟨gb329, 3, none⟩ = some (.int .i64 0) := (blk_cell BK329.out 3).trans rfl
                    have hcz37_4 : w8.cell? ⟨gb329, 4, none⟩ = some (.int .i64 0) := (blk_cell BK329.out 4).trans rfl
                    have hfz37_0 := blk_frozen BK329.out 0
                    have hfz37_1 := blk_frozen BK329.out 1
                    have hfz37_2 := blk_frozen BK329.out 2
                    have hfz37_3 := blk_frozen BK329.out 3
                    have hfz37_4 := blk_frozen BK329.out 4
                    go_wp2
                    go_meet
                    case rel => exact ⟨_, (true), (by first | rfl | (simp; done) | (simp [*]; done)), H', ⟨by first | omega | exact Nat.le_refl _⟩, ⟨by (with_reducible repeat (first | refine blk_drewN ?_ _ | refine blk_drew ?_ | refine blk_alloc ?_ _)); refine blk_far ?_ NB322_329.out _; (with_reducible repeat (first | refine blk_drewN ?_ _ | refine blk_drew ?_ | refine blk_alloc ?_ _)); refine blk_far ?_ NB322_329.out _; (with_reducible repeat (first | refine blk_drewN ?_ _ | refine blk_drew ?_ | refine blk_alloc ?_ _)); refine blk_far ?_ NB322_329.out _; (with_reducible repeat (first | refine blk_drewN ?_ _ | refine blk_drew ?_ | refine blk_alloc ?_ _)); refine blk_far ?_ NB322_329.out _; (with_reducible repeat (first | refine blk_drewN ?_ _ | refine blk_drew ?_ | refine blk_alloc ?_ _)); refine blk_far ?_ NB322_329.out _; (with_reducible repeat (first | refine blk_drewN ?_ _ | refine blk_drew ?_ | refine blk_alloc ?_ _)); exact BK322.out⟩, ⟨by (with_reducible repeat (first | refine blk_drewN ?_ _ | refine blk_drew ?_ | refine blk_alloc ?_ _)); refine blk_put (cs := #[.int .i64 t323, .int .i64 t324, .int .i64 t325, .int .i64 t326, .int .i64 0]) ?_ 4 _ rfl; (with_reducible repeat (first | refine blk_drewN ?_ _ | refine blk_drew ?_ | refine blk_alloc ?_ _)); refine blk_put (cs := #[.int .i64 t323, .int .i64 t324, .int .i64 t325, .int .i64 0, .int .i64 0]) ?_ 3 _ rfl; (with_reducible repeat (first | refine blk_drewN ?_ _ | refine blk_drew ?_ | refine blk_alloc ?_ _)); refine blk_put (cs := #[.int .i64 t323, .int .i64 t324, .int .i64 0, .int .i64 0, .int .i64 0]) ?_ 2 _ rfl; (with_reducible repeat (first | refine blk_drewN ?_ _ | refine blk_drew ?_ | refine blk_alloc ?_ _)); refine blk_put (cs := #[.int .i64 t323, .int .i64 0, .int .i64 0, .int .i64 0, .int .i64 0]) ?_ 1 _ rfl; (with_reducible repeat (first | refine blk_drewN ?_ _ | refine blk_drew ?_ | refine blk_alloc ?_ _)); refine blk_put (cs := #[.int .i64 0, .int .i64 0, .int .i64 0, .int .i64 0, .int .i64 0]) ?_ 0 _ rfl; (with_reducible repeat (first | refine blk_drewN ?_ _ | refine blk_drew ?_ | refine blk_alloc ?_ _)); exact BK329.out⟩, ⟨by repeat (first | (with_reducible first | exact HB.out | apply below_alloc | apply pw_below_drewN | apply below_drew1 | refine below_set ?_ GE322.out | refine below_set ?_ GE329.out) | exact HB.out)⟩⟩
                  · rw [if_neg c35] at H
                    have c35b0 : (t323 == 2) = false := beq_eq_false_iff_ne.mpr c35
                    have c35b1 : (t323 != 2) = true := bne_iff_ne.mpr c35
                    have H' := Aside0.mk H
                    clear H
                    have hnb38 := NB329_322.out
                    have hnc38 := NB322_329.out
                    have hcz39_0 : w8.cell? ⟨gb329, 0, none⟩ = some (.int .i64 0) := (blk_cell BK329.out 0).trans rfl
                    have hcz39_1 : w8.cell? ⟨gb329, 1, none⟩ = some (.int .i64 0) := (blk_cell BK329.out 1).trans rfl
                    have hcz39_2 : w8.cell? ⟨gb329, 2, none⟩ = some (.int .i64 0) := (blk_cell BK329.out 2).trans rfl
                    have hcz39_3 : w8.cell? ⟨gb329, 3, none⟩ = some (.int .i64 0) := (blk_cell BK329.out 3).trans rfl
                    have hcz39_4 : w8.cell? ⟨gb329, 4, none⟩ = some (.int .i64 0) := (blk_cell BK329.out 4).trans rfl
                    have hfz39_0 := blk_frozen BK329.out 0
                    have hfz39_1 := blk_frozen BK329.out 1
                    have hfz39_2 := blk_frozen BK329.out 2
                    have hfz39_3 := blk_frozen BK329.out 3
                    have hfz39_4 := blk_frozen BK329.out 4
                    go_wp2
                    go_meet
                    case rel => exact ⟨_, (false), (by first | rfl | (simp; done) | (simp [*]; done)), H', ⟨by first | omega | exact Nat.le_refl _⟩, ⟨by (with_reducible repeat (first | refine blk_drewN ?_ _ | refine blk_drew ?_ | refine blk_alloc ?_ _)); refine blk_far ?_ NB322_329.out _; (with_reducible repeat (first | refine blk_drewN ?_ _ | refine blk_drew ?_ | refine blk_alloc ?_ _)); refine blk_far ?_ NB322_329.out _; (with_reducible repeat (first | refine blk_drewN ?_ _ | refine blk_drew ?_ | refine blk_alloc ?_ _)); refine blk_far ?_ NB322_329.out _; (with_reducible repeat (first | refine blk_drewN ?_ _ | refine blk_drew ?_ | refine blk_alloc ?_ _)); refine blk_far ?_ NB322_329.out _; (with_reducible repeat (first | refine blk_drewN ?_ _ | refine blk_drew ?_ | refine blk_alloc ?_ _)); refine blk_far ?_ NB322_329.out _; (with_reducible repeat (first | refine blk_drewN ?_ _ | refine blk_drew ?_ | refine blk_alloc ?_ _)); exact BK322.out⟩, ⟨by (with_reducible repeat (first | refine blk_drewN ?_ _ | refine blk_drew ?_ | refine blk_alloc ?_ _)); refine blk_put (cs := #[.int .i64 t323, .int .i64 t324, .int .i64 t325, .int .i64 t326, .int .i64 0]) ?_ 4 _ rfl; (with_reducible repeat (first | refine blk_drewN ?_ _ | refine blk_drew ?_ | refine blk_alloc ?_ _)); refine blk_put (cs := #[.int .i64 t323, .int .i64 t324, .int .i64 t325, .int .i64 0, .int .i64 0]) ?_ 3 _ rfl; (with_reducible repeat (first | refine blk_drewN ?_ _ | refine blk_drew ?_ | refine blk_alloc ?_ _)); refine blk_put (cs := #[.int .i64 t323, .int .i64 t324, .int .i64 0, .int .i64 0, .int .i64 0]) ?_ 2 _ rfl; (with_reducible repeat (first | refine blk_drewN ?_ _ | refine blk_drew ?_ | refine blk_alloc ?_ _)); refine blk_put (cs := #[.int .i64 t323, .int .i64 0, .int .i64 0, .int .i64 0, .int .i64 0]) ?_ 1 _ rfl; (with_reducible repeat (first | refine blk_drewN ?_ _ | refine blk_drew ?_ | refine blk_alloc ?_ _)); refine blk_put (cs := #[.int .i64 0, .int .i64 0, .int .i64 0, .int .i64 0, .int .i64 0]) ?_ 0 _ rfl; (with_reducible repeat (first | refine blk_drewN ?_ _ | refine blk_drew ?_ | refine blk_alloc ?_ _)); exact BK329.out⟩, ⟨by repeat (first | (with_reducible first | exact HB.out | apply below_alloc | apply pw_below_drewN | apply below_drew1 | refine below_set ?_ GE322.out | refine below_set ?_ GE329.out) | exact HB.out)⟩⟩
                · rw [if_neg c34] at H
                  have c34b0 : (t325 == 0) = false := beq_eq_false_iff_ne.mpr c34
                  have c34b1 : (t325 != 0) = true := bne_iff_ne.mpr c34
                  by_cases c40 : t323 = 2
                  · rw [if_pos c40] at H
                    have c40b0 : (t323 == 2) = true := beq_iff_eq.mpr c40
                    have c40b1 : (t323 != 2) = false := bne_eq_false_iff_eq.mpr c40
                    clear c40
                    have H' := Aside0.mk H
                    clear H
                    have hnb41 := NB329_322.out
                    have hnc41 := NB322_329.out
                    have hcz42_0 : w8.cell? ⟨gb329, 0, none⟩ = some (.int .i64 0) := (blk_cell BK329.out 0).trans rfl
                    have hcz42_1 : w8.cell? ⟨gb329, 1, none⟩ = some (.int .i64 0) := (blk_cell BK329.out 1).trans rfl
                    have hcz42_2 : w8.cell? ⟨gb329, 2, none⟩ = some (.int .i64 0) := (blk_cell BK329.out 2).trans rfl
                    have hcz42_3 : w8.cell? ⟨gb329, 3, none⟩ = some (.int .i64 0) := (blk_cell BK329.out 3).trans rfl
                    have hcz42_4 : w8.cell? ⟨gb329, 4, none⟩ = some (.int .i64 0) := (blk_cell BK329.out 4).trans rfl
                    have hfz42_0 := blk_frozen BK329.out 0
                    have hfz42_1 := blk_frozen BK329.out 1
                    have hfz42_2 := blk_frozen BK329.out 2
                    have hfz42_3 := blk_frozen BK329.out 3
                    have hfz42_4 := blk_frozen BK329.out 4
                    go_wp2
                    go_meet
                    case rel => exact ⟨_, (false), (by first | rfl | (simp; done) | (simp [*]; done)), H', ⟨by first | omega | exact Nat.le_refl _⟩, ⟨by (with_reducible repeat (first | refine blk_drewN ?_ _ | refine blk_drew ?_ | refine blk_alloc ?_ _)); refine blk_far ?_ NB322_329.out _; (with_reducible repeat (first | refine blk_drewN ?_ _ | refine blk_drew ?_ | refine blk_alloc ?_ _)); refine blk_far ?_ NB322_329.out _; (with_reducible repeat (first | refine blk_drewN ?_ _ | refine blk_drew ?_ | refine blk_alloc ?_ _)); refine blk_far ?_ NB322_329.out _; (with_reducible repeat (first | refine blk_drewN ?_ _ | refine blk_drew ?_ | refine blk_alloc ?_ _)); refine blk_far ?_ NB322_329.out _; (with_reducible repeat (first | refine blk_drewN ?_ _ | refine blk_drew ?_ | refine blk_alloc ?_ _)); refine blk_far ?_ NB322_329.out _; (with_reducible repeat (first | refine blk_drewN ?_ _ | refine blk_drew ?_ | refine blk_alloc ?_ _)); exact BK322.out⟩, ⟨by (with_reducible repeat (first | refine blk_drewN ?_ _ | refine blk_drew ?_ | refine blk_alloc ?_ _)); refine blk_put (cs := #[.int .i64 t323, .int .i64 t324, .int .i64 t325, .int .i64 t326, .int .i64 0]) ?_ 4 _ rfl; (with_reducible repeat (first | refine blk_drewN ?_ _ | refine blk_drew ?_ | refine blk_alloc ?_ _)); refine blk_put (cs := #[.int .i64 t323, .int .i64 t324, .int .i64 t325, .int .i64 0, .int .i64 0]) ?_ 3 _ rfl; (with_reducible repeat (first | refine blk_drewN ?_ _ | refine blk_drew ?_ | refine blk_alloc ?_ _)); refine blk_put (cs := #[.int .i64 t323, .int .i64 t324, .int .i64 0, .int .i64 0, .int .i64 0]) ?_ 2 _ rfl; (with_reducible repeat (first | refine blk_drewN ?_ _ | refine blk_drew ?_ | refine blk_alloc ?_ _)); refine blk_put (cs := #[.int .i64 t323, .int .i64 0, .int .i64 0, .int .i64 0, .int .i64 0]) ?_ 1 _ rfl; (with_reducible repeat (first | refine blk_drewN ?_ _ | refine blk_drew ?_ | refine blk_alloc ?_ _)); refine blk_put (cs := #[.int .i64 0, .int .i64 0, .int .i64 0, .int .i64 0, .int .i64 0]) ?_ 0 _ rfl; (with_reducible repeat (first | refine blk_drewN ?_ _ | refine blk_drew ?_ | refine blk_alloc ?_ _)); exact BK329.out⟩, ⟨by repeat (first | (with_reducible first | exact HB.out | apply below_alloc | apply pw_below_drewN | apply below_drew1 | refine below_set ?_ GE322.out | refine below_set ?_ GE329.out) | exact HB.out)⟩⟩
                  · rw [if_neg c40] at H
                    have c40b0 : (t323 == 2) = false := beq_eq_false_iff_ne.mpr c40
                    have c40b1 : (t323 != 2) = true := bne_iff_ne.mpr c40
                    have H' := Aside0.mk H
                    clear H
                    have hnb43 := NB329_322.out
                    have hnc43 := NB322_329.out
                    have hcz44_0 : w8.cell? ⟨gb329, 0, none⟩ = some (.int .i64 0) := (blk_cell BK329.out 0).trans rfl
                    have hcz44_1 : w8.cell? ⟨gb329, 1, none⟩ = some (.int .i64 0) := (blk_cell BK329.out 1).trans rfl
                    have hcz44_2 : w8.cell? ⟨gb329, 2, none⟩ = some (.int .i64 0) := (blk_cell BK329.out 2).trans rfl
                    have hcz44_3 : w8.cell? ⟨gb329, 3, none⟩ = some (.int .i64 0) := (blk_cell BK329.out 3).trans rfl
                    have hcz44_4 : w8.cell? ⟨gb329, 4, none⟩ = some (.int .i64 0) := (blk_cell BK329.out 4).trans rfl
                    have hfz44_0 := blk_frozen BK329.out 0
                    have hfz44_1 := blk_frozen BK329.out 1
                    have hfz44_2 := blk_frozen BK329.out 2
                    have hfz44_3 := blk_frozen BK329.out 3
                    have hfz44_4 := blk_frozen BK329.out 4
                    go_wp2
                    go_meet
                    case rel => exact ⟨_, (true), (by first | rfl | (simp; done) | (simp [*]; done)), H', ⟨by first | omega | exact Nat.le_refl _⟩, ⟨by (with_reducible repeat (first | refine blk_drewN ?_ _ | refine blk_drew ?_ | refine blk_alloc ?_ _)); refine blk_far ?_ NB322_329.out _; (with_reducible repeat (first | refine blk_drewN ?_ _ | refine blk_drew ?_ | refine blk_alloc ?_ _)); refine blk_far ?_ NB322_329.out _; (with_reducible repeat (first | refine blk_drewN ?_ _ | refine blk_drew ?_ | refine blk_alloc ?_ _)); refine blk_far ?_ NB322_329.out _; (with_reducible repeat (first | refine blk_drewN ?_ _ | refine blk_drew ?_ | refine blk_alloc ?_ _)); refine blk_far ?_ NB322_329.out _; (with_reducible repeat (first | refine blk_drewN ?_ _ | refine blk_drew ?_ | refine blk_alloc ?_ _)); refine blk_far ?_ NB322_329.out _; (with_reducible repeat (first | refine blk_drewN ?_ _ | refine blk_drew ?_ | refine blk_alloc ?_ _)); exact BK322.out⟩, ⟨by (with_reducible repeat (first | refine blk_drewN ?_ _ | refine blk_drew ?_ | refine blk_alloc ?_ _)); refine blk_put (cs := #[.int .i64 t323, .int .i64 t324, .int .i64 t325, .int .i64 t326, .int .i64 0]) ?_ 4 _ rfl; (with_reducible repeat (first | refine blk_drewN ?_ _ | refine blk_drew ?_ | refine blk_alloc ?_ _)); refine blk_put (cs := #[.int .i64 t323, .int .i64 t324, .int .i64 t325, .int .i64 0, .int .i64 0]) ?_ 3 _ rfl; (with_reducible repeat (first | refine blk_drewN ?_ _ | refine blk_drew ?_ | refine blk_alloc ?_ _)); refine blk_put (cs := #[.int .i64 t323, .int .i64 t324, .int .i64 0, .int .i64 0, .int .i64 0]) ?_ 2 _ rfl; (with_reducible repeat (first | refine blk_drewN ?_ _ | refine blk_drew ?_ | refine blk_alloc ?_ _)); refine blk_put (cs := #[.int .i64 t323, .int .i64 0, .int .i64 0, .int .i64 0, .int .i64 0]) ?_ 1 _ rfl; (with_reducible repeat (first | refine blk_drewN ?_ _ | refine blk_drew ?_ | refine blk_alloc ?_ _)); refine blk_put (cs := #[.int .i64 0, .int .i64 0, .int .i64 0, .int .i64 0, .int .i64 0]) ?_ 0 _ rfl; (with_reducible repeat (first | refine blk_drewN ?_ _ | refine blk_drew ?_ | refine blk_alloc ?_ _)); exact BK329.out⟩, ⟨by repeat (first | (with_reducible first | exact HB.out | apply below_alloc | apply pw_below_drewN | apply below_drew1 | refine below_set ?_ GE322.out | refine below_set ?_ GE329.out) | exact HB.out)⟩⟩
              · rw [if_neg c33] at H
                have c33b0 : (t323 == 1) = false := beq_eq_false_iff_ne.mpr c33
                have c33b1 : (t323 != 1) = true := bne_iff_ne.mpr c33
                have H' := Aside0.mk H
                clear H
                have hnb45 := NB329_322.out
                have hnc45 := NB322_329.out
                have hcz46_0 : w8.cell? ⟨gb329, 0, none⟩ = some (.int .i64 0) := (blk_cell BK329.out 0).trans rfl
                have hcz46_1 : w8.cell? ⟨gb329, 1, none⟩ = some (.int .i64 0) := (blk_cell BK329.out 1).trans rfl
                have hcz46_2 : w8.cell? ⟨gb329, 2, none⟩ = some (.int .i64 0) := (blk_cell BK329.out 2).trans rfl
                have hcz46_3 : w8.cell? ⟨gb329, 3, none⟩ = some (.int .i64 0) := (blk_cell BK329.out 3).trans rfl
                have hcz46_4 : w8.cell? ⟨gb329, 4, none⟩ = some (.int .i64 0) := (blk_cell BK329.out 4).trans rfl
                have hfz46_0 := blk_frozen BK329.out 0
                have hfz46_1 := blk_frozen BK329.out 1
                have hfz46_2 := blk_frozen BK329.out 2
                have hfz46_3 := blk_frozen BK329.out 3
                have hfz46_4 := blk_frozen BK329.out 4
                go_wp2
                go_meet
                case rel => exact ⟨_, (true), (by first | rfl | (simp; done) | (simp [*]; done)), H', ⟨by first | omega | exact Nat.le_refl _⟩, ⟨by (with_reducible repeat (first | refine blk_drewN ?_ _ | refine blk_drew ?_ | refine blk_alloc ?_ _)); refine blk_far ?_ NB322_329.out _; (with_reducible repeat (first | refine blk_drewN ?_ _ | refine blk_drew ?_ | refine blk_alloc ?_ _)); refine blk_far ?_ NB322_329.out _; (with_reducible repeat (first | refine blk_drewN ?_ _ | refine blk_drew ?_ | refine blk_alloc ?_ _)); refine blk_far ?_ NB322_329.out _; (with_reducible repeat (first | refine blk_drewN ?_ _ | refine blk_drew ?_ | refine blk_alloc ?_ _)); refine blk_far ?_ NB322_329.out _; (with_reducible repeat (first | refine blk_drewN ?_ _ | refine blk_drew ?_ | refine blk_alloc ?_ _)); refine blk_far ?_ NB322_329.out _; (with_reducible repeat (first | refine blk_drewN ?_ _ | refine blk_drew ?_ | refine blk_alloc ?_ _)); exact BK322.out⟩, ⟨by (with_reducible repeat (first | refine blk_drewN ?_ _ | refine blk_drew ?_ | refine blk_alloc ?_ _)); refine blk_put (cs := #[.int .i64 t323, .int .i64 t324, .int .i64 t325, .int .i64 t326, .int .i64 0]) ?_ 4 _ rfl; (with_reducible repeat (first | refine blk_drewN ?_ _ | refine blk_drew ?_ | refine blk_alloc ?_ _)); refine blk_put (cs := #[.int .i64 t323, .int .i64 t324, .int .i64 t325, .int .i64 0, .int .i64 0]) ?_ 3 _ rfl; (with_reducible repeat (first | refine blk_drewN ?_ _ | refine blk_drew ?_ | refine blk_alloc ?_ _)); refine blk_put (cs := #[.int .i64 t323, .int .i64 t324, .int .i64 0, .int .i64 0, .int .i64 0]) ?_ 2 _ rfl; (with_reducible repeat (first | refine blk_drewN ?_ _ | refine blk_drew ?_ | refine blk_alloc ?_ _)); refine blk_put (cs := #[.int .i64 t323, .int .i64 0, .int .i64 0, .int .i64 0, .int .i64 0]) ?_ 1 _ rfl; (with_reducible repeat (first | refine blk_drewN ?_ _ | refine blk_drew ?_ | refine blk_alloc ?_ _)); refine blk_put (cs := #[.int .i64 0, .int .i64 0, .int .i64 0, .int .i64 0, .int .i64 0]) ?_ 0 _ rfl; (with_reducible repeat (first | refine blk_drewN ?_ _ | refine blk_drew ?_ | refine blk_alloc ?_ _)); exact BK329.out⟩, ⟨by repeat (first | (with_reducible first | exact HB.out | apply below_alloc | apply pw_below_drewN | apply below_drew1 | refine below_set ?_ GE322.out | refine below_set ?_ GE329.out) | exact HB.out)⟩⟩
          · rw [if_neg c17] at H
            have c17b0 : (t326 == 0) = false := beq_eq_false_iff_ne.mpr c17
            have c17b1 : (t326 != 0) = true := bne_iff_ne.mpr c17
            by_cases c47 : t326 = a0_16
            · rw [if_pos c47] at H
              have c47b0 : (t326 == a0_16) = true := beq_iff_eq.mpr c47
              have c47b1 : (t326 != a0_16) = false := bne_eq_false_iff_eq.mpr c47
              clear c47
              by_cases c48 : t324 = 0
              · rw [if_pos c48] at H
                have c48b0 : (t324 == 0) = true := beq_iff_eq.mpr c48
                have c48b1 : (t324 != 0) = false := bne_eq_false_iff_eq.mpr c48
                clear c48
                by_cases c49 : t323 = 1
                · rw [if_pos c49] at H
                  have c49b0 : (t323 == 1) = true := beq_iff_eq.mpr c49
                  have c49b1 : (t323 != 1) = false := bne_eq_false_iff_eq.mpr c49
                  clear c49
                  have H' := Aside0.mk H
                  clear H
                  have hnb50 := NB329_322.out
                  have hnc50 := NB322_329.out
                  have hcz51_0 : w8.cell? ⟨gb329, 0, none⟩ = some (.int .i64 0) := (blk_cell BK329.out 0).trans rfl
                  have hcz51_1 : w8.cell? ⟨gb329, 1, none⟩ = some (.int .i64 0) := (blk_cell BK329.out 1).trans rfl
                  have hcz51_2 : w8.cell? ⟨gb329, 2, none⟩ = some (.int .i64 0) := (blk_cell BK329.out 2).trans rfl
                  have hcz51_3 : w8.cell? ⟨gb329, 3, none⟩ = some (.int .i64 0) := (blk_cell BK329.out 3).trans rfl
                  have hcz51_4 : w8.cell? ⟨gb329, 4, none⟩ = some (.int .i64 0) := (blk_cell BK329.out 4).trans rfl
                  have hfz51_0 := blk_frozen BK329.out 0
                  have hfz51_1 := blk_frozen BK329.out 1
                  have hfz51_2 := blk_frozen BK329.out 2
                  have hfz51_3 := blk_frozen BK329.out 3
                  have hfz51_4 := blk_frozen BK329.out 4
                  have hcz52_0 : w8.cell? ⟨gb322, 0, none⟩ = some (.bool a0_0) := (blk_cell BK322.out 0).trans rfl
                  have hcz52_1 : w8.cell? ⟨gb322, 1, none⟩ = some (.bool a0_1) := (blk_cell BK322.out 1).trans rfl
                  have hcz52_2 : w8.cell? ⟨gb322, 2, none⟩ = some (.int .i64 a0_2) := (blk_cell BK322.out 2).trans rfl
                  have hcz52_3 : w8.cell? ⟨gb322, 3, none⟩ = some (.bool a0_3) := (blk_cell BK322.out 3).trans rfl
                  have hcz52_4 : w8.cell? ⟨gb322, 4, none⟩ = some (.bool a0_4) := (blk_cell BK322.out 4).trans rfl
                  have hcz52_5 : w8.cell? ⟨gb322, 5, none⟩ = some (.bool a0_5) := (blk_cell BK322.out 5).trans rfl
                  have hcz52_6 : w8.cell? ⟨gb322, 6, none⟩ = some (.bool a0_6) := (blk_cell BK322.out 6).trans rfl
                  have hcz52_7 : w8.cell? ⟨gb322, 7, none⟩ = some (.int .i64 a0_7) := (blk_cell BK322.out 7).trans rfl
                  have hcz52_8 : w8.cell? ⟨gb322, 8, none⟩ = some (.bool a0_8) := (blk_cell BK322.out 8).trans rfl
                  have hcz52_9 : w8.cell? ⟨gb322, 9, none⟩ = some (.bool a0_9) := (blk_cell BK322.out 9).trans rfl
                  have hcz52_10 : w8.cell? ⟨gb322, 10, none⟩ = some (.bool a0_10) := (blk_cell BK322.out 10).trans rfl
                  have hcz52_11 : w8.cell? ⟨gb322, 11, none⟩ = some (.bool a0_11) := (blk_cell BK322.out 11).trans rfl
                  have hcz52_12 : w8.cell? ⟨gb322, 12, none⟩ = some (.bool a0_12) := (blk_cell BK322.out 12).trans rfl
                  have hcz52_13 : w8.cell? ⟨gb322, 13, none⟩ = some (.bool a0_13) := (blk_cell BK322.out 13).trans rfl
                  have hcz52_14 : w8.cell? ⟨gb322, 14, none⟩ = some (.bool a0_14) := (blk_cell BK322.out 14).trans rfl
                  have hcz52_15 : w8.cell? ⟨gb322, 15, none⟩ = some (.bool a0_15) := (blk_cell BK322.out 15).trans rfl
                  have hcz52_16 : w8.cell? ⟨gb322, 16, none⟩ = some (.int .i64 a0_16) := (blk_cell BK322.out 16).trans rfl
                  have hfz52_0 := blk_frozen BK322.out 0
                  have hfz52_1 := blk_frozen BK322.out 1
                  have hfz52_2 := blk_frozen BK322.out 2
                  have hfz52_3 := blk_frozen BK322.out 3
                  have hfz52_4 := blk_frozen BK322.out 4
                  have hfz52_5 := blk_frozen BK322.out 5
                  have hfz52_6 := blk_frozen BK322.out 6
                  have hfz52_7 := blk_frozen BK322.out 7
                  have hfz52_8 := blk_frozen BK322.out 8
                  have hfz52_9 := blk_frozen BK322.out 9
                  have hfz52_10 := blk_frozen BK322.out 10
                  have hfz52_11 := blk_frozen BK322.out 11
                  have hfz52_12 := blk_frozen BK322.out 12
                  have hfz52_13 := blk_frozen BK322.out 13
                  have hfz52_14 := blk_frozen BK322.out 14
                  have hfz52_15 := blk_frozen BK322.out 15
                  have hfz52_16 := blk_frozen BK322.out 16
                  go_wp2
                  go_meet
                  case rel => exact ⟨_, (true), (by first | rfl | (simp; done) | (simp [*]; done)), H', ⟨by first | omega | exact Nat.le_refl _⟩, ⟨by (with_reducible repeat (first | refine blk_drewN ?_ _ | refine blk_drew ?_ | refine blk_alloc ?_ _)); refine blk_far ?_ NB322_329.out _; (with_reducible repeat (first | refine blk_drewN ?_ _ | refine blk_drew ?_ | refine blk_alloc ?_ _)); refine blk_far ?_ NB322_329.out _; (with_reducible repeat (first | refine blk_drewN ?_ _ | refine blk_drew ?_ | refine blk_alloc ?_ _)); refine blk_far ?_ NB322_329.out _; (with_reducible repeat (first | refine blk_drewN ?_ _ | refine blk_drew ?_ | refine blk_alloc ?_ _)); refine blk_far ?_ NB322_329.out _; (with_reducible repeat (first | refine blk_drewN ?_ _ | refine blk_drew ?_ | refine blk_alloc ?_ _)); refine blk_far ?_ NB322_329.out _; (with_reducible repeat (first | refine blk_drewN ?_ _ | refine blk_drew ?_ | refine blk_alloc ?_ _)); exact BK322.out⟩, ⟨by (with_reducible repeat (first | refine blk_drewN ?_ _ | refine blk_drew ?_ | refine blk_alloc ?_ _)); refine blk_put (cs := #[.int .i64 t323, .int .i64 t324, .int .i64 t325, .int .i64 t326, .int .i64 0]) ?_ 4 _ rfl; (with_reducible repeat (first | refine blk_drewN ?_ _ | refine blk_drew ?_ | refine blk_alloc ?_ _)); refine blk_put (cs := #[.int .i64 t323, .int .i64 t324, .int .i64 t325, .int .i64 0, .int .i64 0]) ?_ 3 _ rfl; (with_reducible repeat (first | refine blk_drewN ?_ _ | refine blk_drew ?_ | refine blk_alloc ?_ _)); refine blk_put (cs := #[.int .i64 t323, .int .i64 t324, .int .i64 0, .int .i64 0, .int .i64 0]) ?_ 2 _ rfl; (with_reducible repeat (first | refine blk_drewN ?_ _ | refine blk_drew ?_ | refine blk_alloc ?_ _)); refine blk_put (cs := #[.int .i64 t323, .int .i64 0, .int .i64 0, .int .i64 0, .int .i64 0]) ?_ 1 _ rfl; (with_reducible repeat (first | refine blk_drewN ?_ _ | refine blk_drew ?_ | refine blk_alloc ?_ _)); refine blk_put (cs := #[.int .i64 0, .int .i64 0, .int .i64 0, .int .i64 0, .int .i64 0]) ?_ 0 _ rfl; (with_reducible repeat (first | refine blk_drewN ?_ _ | refine blk_drew ?_ | refine blk_alloc ?_ _)); exact BK329.out⟩, ⟨by repeat (first | (with_reducible first | exact HB.out | apply below_alloc | apply pw_below_drewN | apply below_drew1 | refine below_set ?_ GE322.out | refine below_set ?_ GE329.out) | exact HB.out)⟩⟩
                · rw [if_neg c49] at H
                  have c49b0 : (t323 == 1) = false := beq_eq_false_iff_ne.mpr c49
                  have c49b1 : (t323 != 1) = true := bne_iff_ne.mpr c49
                  by_cases c53 : t325 = 0
                  · rw [if_pos c53] at H
                    have c53b0 : (t325 == 0) = true := beq_iff_eq.mpr c53
                    have c53b1 : (t325 != 0) = false := bne_eq_false_iff_eq.mpr c53
                    clear c53
                    by_cases c54 : t323 = 2
                    · rw [if_pos c54] at H
                      have c54b0 : (t323 == 2) = true := beq_iff_eq.mpr c54
                      have c54b1 : (t323 != 2) = false := bne_eq_false_iff_eq.mpr c54
                      clear c54
                      have H' := Aside0.mk H
                      clear H
                      have hnb55 := NB329_322.out
                      have hnc55 := NB322_329.out
                      have hcz56_0 : w8.cell? ⟨gb329, 0, none⟩ = some (.int .i64 0) := (blk_cell BK329.out 0).trans rfl
                      have hcz56_1 : w8.cell? ⟨gb329, 1, none⟩ = some (.int .i64 0) := (blk_cell BK329.out 1).trans rfl
                      have hcz56_2 : w8.cell? ⟨gb329, 2, none⟩ = some (.int .i64 0) := (blk_cell BK329.out 2).trans rfl
                      have hcz56_3 : w8.cell? ⟨gb329, 3, none⟩ = some (.int .i64 0) := (blk_cell BK329.out 3).trans rfl
                      have hcz56_4 : w8.cell? ⟨gb329, 4, none⟩ = some (.int .i64 0) := (blk_cell BK329.out 4).trans rfl
                      have hfz56_0 := blk_frozen BK329.out 0
                      have hfz56_1 := blk_frozen BK329.out 1
                      have hfz56_2 := blk_frozen BK329.out 2
                      have hfz56_3 := blk_frozen BK329.out 3
                      have hfz56_4 := blk_frozen BK329.out 4
                      have hcz57_0 : w8.cell? ⟨gb322, 0, none⟩ = some (.bool a0_0) := (blk_cell BK322.out 0).trans rfl
                      have hcz57_1 : w8.cell? ⟨gb322, 1, none⟩ = some (.bool a0_1) := (blk_cell BK322.out 1).trans rfl
                      have hcz57_2 : w8.cell? ⟨gb322, 2, none⟩ = some (.int .i64 a0_2) := (blk_cell BK322.out 2).trans rfl
                      have hcz57_3 : w8.cell? ⟨gb322, 3, none⟩ = some (.bool a0_3) := (blk_cell BK322.out 3).trans rfl
                      have hcz57_4 : w8.cell? ⟨gb322, 4, none⟩ = some (.bool a0_4) := (blk_cell BK322.out 4).trans rfl
                      have hcz57_5 : w8.cell? ⟨gb322, 5, none⟩ = some (.bool a0_5) := (blk_cell BK322.out 5).trans rfl
                      have hcz57_6 : w8.cell? ⟨gb322, 6, none⟩ = some (.bool a0_6) := (blk_cell BK322.out 6).trans rfl
                      have hcz57_7 : w8.cell? ⟨gb322, 7, none⟩ = some (.int .i64 a0_7) := (blk_cell BK322.out 7).trans rfl
                      have hcz57_8 : w8.cell? ⟨gb322, 8, none⟩ = some (.bool a0_8) := (blk_cell BK322.out 8).trans rfl
                      have hcz57_9 : w8.cell? ⟨gb322, 9, none⟩ = some (.bool a0_9) := (blk_cell BK322.out 9).trans rfl
                      have hcz57_10 : w8.cell? ⟨gb322, 10, none⟩ = some (.bool a0_10) := (blk_cell BK322.out 10).trans rfl
                      have hcz57_11 : w8.cell? ⟨gb322, 11, none⟩ = some (.bool a0_11) := (blk_cell BK322.out 11).trans rfl
                      have hcz57_12 : w8.cell? ⟨gb322, 12, none⟩ = some (.bool a0_12) := (blk_cell BK322.out 12).trans rfl
                      have hcz57_13 : w8.cell? ⟨gb322, 13, none⟩ = some (.bool a0_13) := (blk_cell BK322.out 13).trans rfl
                      have hcz57_14 : w8.cell? ⟨gb322, 14, none⟩ = some (.bool a0_14) := (blk_cell BK322.out 14).trans rfl
                      have hcz57_15 : w8.cell? ⟨gb322, 15, none⟩ = some (.bool a0_15) := (blk_cell BK322.out 15).trans rfl
                      have hcz57_16 : w8.cell? ⟨gb322, 16, none⟩ = some (.int .i64 a0_16) := (blk_cell BK322.out 16).trans rfl
                      have hfz57_0 := blk_frozen BK322.out 0
                      have hfz57_1 := blk_frozen BK322.out 1
                      have hfz57_2 := blk_frozen BK322.out 2
                      have hfz57_3 := blk_frozen BK322.out 3
                      have hfz57_4 := blk_frozen BK322.out 4
                      have hfz57_5 := blk_frozen BK322.out 5
                      have hfz57_6 := blk_frozen BK322.out 6
                      have hfz57_7 := blk_frozen BK322.out 7
                      have hfz57_8 := blk_frozen BK322.out 8
                      have hfz57_9 := blk_frozen BK322.out 9
                      have hfz57_10 := blk_frozen BK322.out 10
                      have hfz57_11 := blk_frozen BK322.out 11
                      have hfz57_12 := blk_frozen BK322.out 12
                      have hfz57_13 := blk_frozen BK322.out 13
                      have hfz57_14 := blk_frozen BK322.out 14
                      have hfz57_15 := blk_frozen BK322.out 15
                      have hfz57_16 := blk_frozen BK322.out 16
                      go_wp2
                      go_meet
                      case rel => exact ⟨_, (true), (by first | rfl | (simp; done) | (simp [*]; done)), H', ⟨by first | omega | exact Nat.le_refl _⟩, ⟨by (with_reducible repeat (first | refine blk_drewN ?_ _ | refine blk_drew ?_ | refine blk_alloc ?_ _)); refine blk_far ?_ NB322_329.out _; (with_reducible repeat (first | refine blk_drewN ?_ _ | refine blk_drew ?_ | refine blk_alloc ?_ _)); refine blk_far ?_ NB322_329.out _; (with_reducible repeat (first | refine blk_drewN ?_ _ | refine blk_drew ?_ | refine blk_alloc ?_ _)); refine blk_far ?_ NB322_329.out _; (with_reducible repeat (first | refine blk_drewN ?_ _ | refine blk_drew ?_ | refine blk_alloc ?_ _)); refine blk_far ?_ NB322_329.out _; (with_reducible repeat (first | refine blk_drewN ?_ _ | refine blk_drew ?_ | refine blk_alloc ?_ _)); refine blk_far ?_ NB322_329.out _; (with_reducible repeat (first | refine blk_drewN ?_ _ | refine blk_drew ?_ | refine blk_alloc ?_ _)); exact BK322.out⟩, ⟨by (with_reducible repeat (first | refine blk_drewN ?_ _ | refine blk_drew ?_ | refine blk_alloc ?_ _)); refine blk_put (cs := #[.int .i64 t323, .int .i64 t324, .int .i64 t325, .int .i64 t326, .int .i64 0]) ?_ 4 _ rfl; (with_reducible repeat (first | refine blk_drewN ?_ _ | refine blk_drew ?_ | refine blk_alloc ?_ _)); refine blk_put (cs := #[.int .i64 t323, .int .i64 t324, .int .i64 t325, .int .i64 0, .int .i64 0]) ?_ 3 _ rfl; (with_reducible repeat (first | refine blk_drewN ?_ _ | refine blk_drew ?_ | refine blk_alloc ?_ _)); refine blk_put (cs := #[.int .i64 t323, .int .i64 t324, .int .i64 0, .int .i64 0, .int .i64 0]) ?_ 2 _ rfl; (with_reducible repeat (first | refine blk_drewN ?_ _ | refine blk_drew ?_ | refine blk_alloc ?_ _)); refine blk_put (cs := #[.int .i64 t323, .int .i64 0, .int .i64 0, .int .i64 0, .int .i64 0]) ?_ 1 _ rfl; (with_reducible repeat (first | refine blk_drewN ?_ _ | refine blk_drew ?_ | refine blk_alloc ?_ _)); refine blk_put (cs := #[.int .i64 0, .int .i64 0, .int .i64 0, .int .i64 0, .int .i64 0]) ?_ 0 _ rfl; (with_reducible repeat (first | refine blk_drewN ?_ _ | refine blk_drew ?_ | refine blk_alloc ?_ _)); exact BK329.out⟩, ⟨by repeat (first | (with_reducible first | exact HB.out | apply below_alloc | apply pw_below_drewN | apply below_drew1 | refine below_set ?_ GE322.out | refine below_set ?_ GE329.out) | exact HB.out)⟩⟩
                    · rw [if_neg c54] at H
                      have c54b0 : (t323 == 2) = false := beq_eq_false_iff_ne.mpr c54
                      have c54b1 : (t323 != 2) = true := bne_iff_ne.mpr c54
                      have H' := Aside0.mk H
                      clear H
                      have hnb58 := NB329_322.out
                      have hnc58 := NB322_329.out
                      have hcz59_0 : w8.cell? ⟨gb329, 0, none⟩ = some (.int .i64 0) := (blk_cell BK329.out 0).trans rfl
                      have hcz59_1 : w8.cell? ⟨gb329, 1, none⟩ = some (.int .i64 0) := (blk_cell BK329.out 1).trans rfl
                      have hcz59_2 : w8.cell? ⟨gb329, 2, none⟩ = some (.int .i64 0) := (blk_cell BK329.out 2).trans rfl
                      have hcz59_3 : w8.cell? ⟨gb329, 3, none⟩ = some (.int .i64 0) := (blk_cell BK329.out 3).trans rfl
                      have hcz59_4 : w8.cell? ⟨gb329, 4, none⟩ = some (.int .i64 0) := (blk_cell BK329.out 4).trans rfl
                      have hfz59_0 := blk_frozen BK329.out 0
                      have hfz59_1 := blk_frozen BK329.out 1
                      have hfz59_2 := blk_frozen BK329.out 2
                      have hfz59_3 := blk_frozen BK329.out 3
                      have hfz59_4 := blk_frozen BK329.out 4
                      have hcz60_0 : w8.cell? ⟨gb322, 0, none⟩ = some (.bool a0_0) := (blk_cell BK322.out 0).trans rfl
                      have hcz60_1 : w8.cell? ⟨gb322, 1, none⟩ = some (.bool a0_1) := (blk_cell BK322.out 1).trans rfl
                      have hcz60_2 : w8.cell? ⟨gb322, 2, none⟩ = some (.int .i64 a0_2) := (blk_cell BK322.out 2).trans rfl
                      have hcz60_3 : w8.cell? ⟨gb322, 3, none⟩ = some (.bool a0_3) := (blk_cell BK322.out 3).trans rfl
                      have hcz60_4 : w8.cell? ⟨gb322, 4, none⟩ = some (.bool a0_4) := (blk_cell BK322.out 4).trans rfl
                      have hcz60_5 : w8.cell? ⟨gb322, 5, none⟩ = some (.bool a0_5) := (blk_cell BK322.out 5).trans rfl
                      have hcz60_6 : w8.cell? ⟨gb322, 6, none⟩ = some (.bool a0_6) := (blk_cell BK322.out 6).trans rfl
                      have hcz60_7 : w8.cell? ⟨gb322, 7, none⟩ = some (.int .i64 a0_7) := (blk_cell BK322.out 7).trans rfl
                      have hcz60_8 : w8.cell? ⟨gb322, 8, none⟩ = some (.bool a0_8) := (blk_cell BK322.out 8).trans rfl
                      have hcz60_9 : w8.cell? ⟨gb322, 9, none⟩ = some (.bool a0_9) := (blk_cell BK322.out 9).trans rfl
                      have hcz60_10 : w8.cell? ⟨gb322, 10, none⟩ = some (.bool a0_10) := (blk_cell BK322.out 10).trans rfl
                      have hcz60_11 : w8.cell? ⟨gb322, 11, none⟩ = some (.bool a0_11) := (blk_cell BK322.out 11).trans rfl
                      have hcz60_12 : w8.cell? ⟨gb322, 12, none⟩ = some (.bool a0_12) := (blk_cell BK322.out 12).trans rfl
                      have hcz60_13 : w8.cell? ⟨gb322, 13, none⟩ = some (.bool a0_13) := (blk_cell BK322.out 13).trans rfl
                      have hcz60_14 : w8.cell? ⟨gb322, 14, none⟩ = some (.bool a0_14) := (blk_cell BK322.out 14).trans rfl
                      have hcz60_15 : w8.cell? ⟨gb322, 15, none⟩ = some (.bool a0_15) := (blk_cell BK322.out 15).trans rfl
                      have hcz60_16 : w8.cell? ⟨gb322, 16, none⟩ = some (.int .i64 a0_16) := (blk_cell BK322.out 16).trans rfl
                      have hfz60_0 := blk_frozen BK322.out 0
                      have hfz60_1 := blk_frozen BK322.out 1
                      have hfz60_2 := blk_frozen BK322.out 2
                      have hfz60_3 := blk_frozen BK322.out 3
                      have hfz60_4 := blk_frozen BK322.out 4
                      have hfz60_5 := blk_frozen BK322.out 5
                      have hfz60_6 := blk_frozen BK322.out 6
                      have hfz60_7 := blk_frozen BK322.out 7
                      have hfz60_8 := blk_frozen BK322.out 8
                      have hfz60_9 := blk_frozen BK322.out 9
                      have hfz60_10 := blk_frozen BK322.out 10
                      have hfz60_11 := blk_frozen BK322.out 11
                      have hfz60_12 := blk_frozen BK322.out 12
                      have hfz60_13 := blk_frozen BK322.out 13
                      have hfz60_14 := blk_frozen BK322.out 14
                      have hfz60_15 := blk_frozen BK322.out 15
                      have hfz60_16 := blk_frozen BK322.out 16
                      go_wp2
                      go_meet
                      case rel => exact ⟨_, (false), (by first | rfl | (simp; done) | (simp [*]; done)), H', ⟨by first | omega | exact Nat.le_refl _⟩, ⟨by (with_reducible repeat (first | refine blk_drewN ?_ _ | refine blk_drew ?_ | refine blk_alloc ?_ _)); refine blk_far ?_ NB322_329.out _; (with_reducible repeat (first | refine blk_drewN ?_ _ | refine blk_drew ?_ | refine blk_alloc ?_ _)); refine blk_far ?_ NB322_329.out _; (with_reducible repeat (first | refine blk_drewN ?_ _ | refine blk_drew ?_ | refine blk_alloc ?_ _)); refine blk_far ?_ NB322_329.out _; (with_reducible repeat (first | refine blk_drewN ?_ _ | refine blk_drew ?_ | refine blk_alloc ?_ _)); refine blk_far ?_ NB322_329.out _; (with_reducible repeat (first | refine blk_drewN ?_ _ | refine blk_drew ?_ | refine blk_alloc ?_ _)); refine blk_far ?_ NB322_329.out _; (with_reducible repeat (first | refine blk_drewN ?_ _ | refine blk_drew ?_ | refine blk_alloc ?_ _)); exact BK322.out⟩, ⟨by (with_reducible repeat (first | refine blk_drewN ?_ _ | refine blk_drew ?_ | refine blk_alloc ?_ _)); refine blk_put (cs := #[.int .i64 t323, .int .i64 t324, .int .i64 t325, .int .i64 t326, .int .i64 0]) ?_ 4 _ rfl; (with_reducible repeat (first | refine blk_drewN ?_ _ | refine blk_drew ?_ | refine blk_alloc ?_ _)); refine blk_put (cs := #[.int .i64 t323, .int .i64 t324, .int .i64 t325, .int .i64 0, .int .i64 0]) ?_ 3 _ rfl; (with_reducible repeat (first | refine blk_drewN ?_ _ | refine blk_drew ?_ | refine blk_alloc ?_ _)); refine blk_put (cs := #[.int .i64 t323, .int .i64 t324, .int .i64 0, .int .i64 0, .int .i64 0]) ?_ 2 _ rfl; (with_reducible repeat (first | refine blk_drewN ?_ _ | refine blk_drew ?_ | refine blk_alloc ?_ _)); refine blk_put (cs := #[.int .i64 t323, .int .i64 0, .int .i64 0, .int .i64 0, .int .i64 0]) ?_ 1 _ rfl; (with_reducible repeat (first | refine blk_drewN ?_ _ | refine blk_drew ?_ | refine blk_alloc ?_ _)); refine blk_put (cs := #[.int .i64 0, .int .i64 0, .int .i64 0, .int .i64 0, .int .i64 0]) ?_ 0 _ rfl; (with_reducible repeat (first | refine blk_drewN ?_ _ | refine blk_drew ?_ | refine blk_alloc ?_ _)); exact BK329.out⟩, ⟨by repeat (first | (with_reducible first | exact HB.out | apply below_alloc | apply pw_below_drewN | apply below_drew1 | refine below_set ?_ GE322.out | refine below_set ?_ GE329.out) | exact HB.out)⟩⟩
                  · rw [if_neg c53] at H
                    have c53b0 : (t325 == 0) = false := beq_eq_false_iff_ne.mpr c53
                    have c53b1 : (t325 != 0) = true := bne_iff_ne.mpr c53
                    by_cases c61 : t323 = 2
                    · rw [if_pos c61] at H
                      have c61b0 : (t323 == 2) = true := beq_iff_eq.mpr c61
                      have c61b1 : (t323 != 2) = false := bne_eq_false_iff_eq.mpr c61
                      clear c61
                      have H' := Aside0.mk H
                      clear H
                      have hnb62 := NB329_322.out
                      have hnc62 := NB322_329.out
                      have hcz63_0 : w8.cell? ⟨gb329, 0, none⟩ = some (.int .i64 0) := (blk_cell BK329.out 0).trans rfl
                      have hcz63_1 : w8.cell? ⟨gb329, 1, none⟩ = some (.int .i64 0) := (blk_cell BK329.out 1).trans rfl
                      have hcz63_2 : w8.cell? ⟨gb329, 2, none⟩ = some (.int .i64 0) := (blk_cell BK329.out 2).trans rfl
                      have hcz63_3 : w8.cell? ⟨gb329, 3, none⟩ = some (.int .i64 0) := (blk_cell BK329.out 3).trans rfl
                      have hcz63_4 : w8.cell? ⟨gb329, 4, none⟩ = some (.int .i64 0) := (blk_cell BK329.out 4).trans rfl
                      have hfz63_0 := blk_frozen BK329.out 0
                      have hfz63_1 := blk_frozen BK329.out 1
                      have hfz63_2 := blk_frozen BK329.out 2
                      have hfz63_3 := blk_frozen BK329.out 3
                      have hfz63_4 := blk_frozen BK329.out 4
                      have hcz64_0 : w8.cell? ⟨gb322, 0, none⟩ = some (.bool a0_0) := (blk_cell BK322.out 0).trans rfl
                      have hcz64_1 : w8.cell? ⟨gb322, 1, none⟩ = some (.bool a0_1) := (blk_cell BK322.out 1).trans rfl
                      have hcz64_2 : w8.cell? ⟨gb322, 2, none⟩ = some (.int .i64 a0_2) := (blk_cell BK322.out 2).trans rfl
                      have hcz64_3 : w8.cell? ⟨gb322, 3, none⟩ = some (.bool a0_3) := (blk_cell BK322.out 3).trans rfl
                      have hcz64_4 : w8.cell? ⟨gb322, 4, none⟩ = some (.bool a0_4) := (blk_cell BK322.out 4).trans rfl
                      have hcz64_5 : w8.cell? ⟨gb322, 5, none⟩ = some (.bool a0_5) := (blk_cell BK322.out 5).trans rfl
                      have hcz64_6 : w8.cell? ⟨gb322, 6, none⟩ = some (.bool a0_6) := (blk_cell BK322.out 6).trans rfl
                      have hcz64_7 : w8.cell? ⟨gb322, 7, none⟩ = some (.int .i64 a0_7) := (blk_cell BK322.out 7).trans rfl
                      have hcz64_8 : w8.cell? ⟨gb322, 8, none⟩ = some (.bool a0_8) := (blk_cell BK322.out 8).trans rfl
                      have hcz64_9 : w8.cell? ⟨gb322, 9, none⟩ = some (.bool a0_9) := (blk_cell BK322.out 9).trans rfl
                      have hcz64_10 : w8.cell? ⟨gb322, 10, none⟩ = some (.bool a0_10) := (blk_cell BK322.out 10).trans rfl
                      have hcz64_11 : w8.cell? ⟨gb322, 11, none⟩ = some (.bool a0_11) := (blk_cell BK322.out 11).trans rfl
                      have hcz64_12 : w8.cell? ⟨gb322, 12, none⟩ = some (.bool a0_12) := (blk_cell BK322.out 12).trans rfl
                      have hcz64_13 : w8.cell? ⟨gb322, 13, none⟩ = some (.bool a0_13) := (blk_cell BK322.out 13).trans rfl
                      have hcz64_14 : w8.cell? ⟨gb322, 14, none⟩ = some (.bool a0_14) := (blk_cell BK322.out 14).trans rfl
                      have hcz64_15 : w8.cell? ⟨gb322, 15, none⟩ = some (.bool a0_15) := (blk_cell BK322.out 15).trans rfl
                      have hcz64_16 : w8.cell? ⟨gb322, 16, none⟩ = some (.int .i64 a0_16) := (blk_cell BK322.out 16).trans rfl
                      have hfz64_0 := blk_frozen BK322.out 0
                      have hfz64_1 := blk_frozen BK322.out 1
                      have hfz64_2 := blk_frozen BK322.out 2
                      have hfz64_3 := blk_frozen BK322.out 3
                      have hfz64_4 := blk_frozen BK322.out 4
                      have hfz64_5 := blk_frozen BK322.out 5
                      have hfz64_6 := blk_frozen BK322.out 6
                      have hfz64_7 := blk_frozen BK322.out 7
                      have hfz64_8 := blk_frozen BK322.out 8
                      have hfz64_9 := blk_frozen BK322.out 9
                      have hfz64_10 := blk_frozen BK322.out 10
                      have hfz64_11 := blk_frozen BK322.out 11
                      have hfz64_12 := blk_frozen BK322.out 12
                      have hfz64_13 := blk_frozen BK322.out 13
                      have hfz64_14 := blk_frozen BK322.out 14
                      have hfz64_15 := blk_frozen BK322.out 15
                      have hfz64_16 := blk_frozen BK322.out 16
                      go_wp2
                      go_meet
                      case rel => exact ⟨_, (false), (by first | rfl | (simp; done) | (simp [*]; done)), H', ⟨by first | omega | exact Nat.le_refl _⟩, ⟨by (with_reducible repeat (first | refine blk_drewN ?_ _ | refine blk_drew ?_ | refine blk_alloc ?_ _)); refine blk_far ?_ NB322_329.out _; (with_reducible repeat (first | refine blk_drewN ?_ _ | refine blk_drew ?_ | refine blk_alloc ?_ _)); refine blk_far ?_ NB322_329.out _; (with_reducible repeat (first | refine blk_drewN ?_ _ | refine blk_drew ?_ | refine blk_alloc ?_ _)); refine blk_far ?_ NB322_329.out _; (with_reducible repeat (first | refine blk_drewN ?_ _ | refine blk_drew ?_ | refine blk_alloc ?_ _)); refine blk_far ?_ NB322_329.out _; (with_reducible repeat (first | refine blk_drewN ?_ _ | refine blk_drew ?_ | refine blk_alloc ?_ _)); refine blk_far ?_ NB322_329.out _; (with_reducible repeat (first | refine blk_drewN ?_ _ | refine blk_drew ?_ | refine blk_alloc ?_ _)); exact BK322.out⟩, ⟨by (with_reducible repeat (first | refine blk_drewN ?_ _ | refine blk_drew ?_ | refine blk_alloc ?_ _)); refine blk_put (cs := #[.int .i64 t323, .int .i64 t324, .int .i64 t325, .int .i64 t326, .int .i64 0]) ?_ 4 _ rfl; (with_reducible repeat (first | refine blk_drewN ?_ _ | refine blk_drew ?_ | refine blk_alloc ?_ _)); refine blk_put (cs := #[.int .i64 t323, .int .i64 t324, .int .i64 t325, .int .i64 0, .int .i64 0]) ?_ 3 _ rfl; (with_reducible repeat (first | refine blk_drewN ?_ _ | refine blk_drew ?_ | refine blk_alloc ?_ _)); refine blk_put (cs := #[.int .i64 t323, .int .i64 t324, .int .i64 0, .int .i64 0, .int .i64 0]) ?_ 2 _ rfl; (with_reducible repeat (first | refine blk_drewN ?_ _ | refine blk_drew ?_ | refine blk_alloc ?_ _)); refine blk_put (cs := #[.int .i64 t323, .int .i64 0, .int .i64 0, .int .i64 0, .int .i64 0]) ?_ 1 _ rfl; (with_reducible repeat (first | refine blk_drewN ?_ _ | refine blk_drew ?_ | refine blk_alloc ?_ _)); refine blk_put (cs := #[.int .i64 0, .int .i64 0, .int .i64 0, .int .i64 0, .int .i64 0]) ?_ 0 _ rfl; (with_reducible repeat (first | refine blk_drewN ?_ _ | refine blk_drew ?_ | refine blk_alloc ?_ _)); exact BK329.out⟩, ⟨by repeat (first | (with_reducible first | exact HB.out | apply below_alloc | apply pw_below_drewN | apply below_drew1 | refine below_set ?_ GE322.out | refine below_set ?_ GE329.out) | exact HB.out)⟩⟩
                    · rw [if_neg c61] at H
                      have c61b0 : (t323 == 2) = false := beq_eq_false_iff_ne.mpr c61
                      have c61b1 : (t323 != 2) = true := bne_iff_ne.mpr c61
                      have H' := Aside0.mk H
                      clear H
                      have hnb65 := NB329_322.out
                      have hnc65 := NB322_329.out
                      have hcz66_0 : w8.cell? ⟨gb329, 0, none⟩ = some (.int .i64 0) := (blk_cell BK329.out 0).trans rfl
                      have hcz66_1 : w8.cell? ⟨gb329, 1, none⟩ = some (.int .i64 0) := (blk_cell BK329.out 1).trans rfl
                      have hcz66_2 : w8.cell? ⟨gb329, 2, none⟩ = some (.int .i64 0) := (blk_cell BK329.out 2).trans rfl
                      have hcz66_3 : w8.cell? ⟨gb329, 3, none⟩ = some (.int .i64 0) := (blk_cell BK329.out 3).trans rfl
                      have hcz66_4 : w8.cell? ⟨gb329, 4, none⟩ = some (.int .i64 0) := (blk_cell BK329.out 4).trans rfl
                      have hfz66_0 := blk_frozen BK329.out 0
                      have hfz66_1 := blk_frozen BK329.out 1
                      have hfz66_2 := blk_frozen BK329.out 2
                      have hfz66_3 := blk_frozen BK329.out 3
                      have hfz66_4 := blk_frozen BK329.out 4
                      have hcz67_0 : w8.cell? ⟨gb322, 0, none⟩ = some (.bool a0_0) := (blk_cell BK322.out 0).trans rfl
                      have hcz67_1 : w8.cell? ⟨gb322, 1, none⟩ = some (.bool a0_1) := (blk_cell BK322.out 1).trans rfl
                      have hcz67_2 : w8.cell? ⟨gb322, 2, none⟩ = some (.int .i64 a0_2) := (blk_cell BK322.out 2).trans rfl
                      have hcz67_3 : w8.cell? ⟨gb322, 3, none⟩ = some (.bool a0_3) := (blk_cell BK322.out 3).trans rfl
                      have hcz67_4 : w8.cell? ⟨gb322, 4, none⟩ = some (.bool a0_4) := (blk_cell BK322.out 4).trans rfl
                      have hcz67_5 : w8.cell? ⟨gb322, 5, none⟩ = some (.bool a0_5) := (blk_cell BK322.out 5).trans rfl
                      have hcz67_6 : w8.cell? ⟨gb322, 6, none⟩ = some (.bool a0_6) := (blk_cell BK322.out 6).trans rfl
                      have hcz67_7 : w8.cell? ⟨gb322, 7, none⟩ = some (.int .i64 a0_7) := (blk_cell BK322.out 7).trans rfl
                      have hcz67_8 : w8.cell? ⟨gb322, 8, none⟩ = some (.bool a0_8) := (blk_cell BK322.out 8).trans rfl
                      have hcz67_9 : w8.cell? ⟨gb322, 9, none⟩ = some (.bool a0_9) := (blk_cell BK322.out 9).trans rfl
                      have hcz67_10 : w8.cell? ⟨gb322, 10, none⟩ = some (.bool a0_10) := (blk_cell BK322.out 10).trans rfl
                      have hcz67_11 : w8.cell? ⟨gb322, 11, none⟩ = some (.bool a0_11) := (blk_cell BK322.out 11).trans rfl
                      have hcz67_12 : w8.cell? ⟨gb322, 12, none⟩ = some (.bool a0_12) := (blk_cell BK322.out 12).trans rfl
                      have hcz67_13 : w8.cell? ⟨gb322, 13, none⟩ = some (.bool a0_13) := (blk_cell BK322.out 13).trans rfl
                      have hcz67_14 : w8.cell? ⟨gb322, 14, none⟩ = some (.bool a0_14) := (blk_cell BK322.out 14).trans rfl
                      have hcz67_15 : w8.cell? ⟨gb322, 15, none⟩ = some (.bool a0_15) := (blk_cell BK322.out 15).trans rfl
                      have hcz67_16 : w8.cell? ⟨gb322, 16, none⟩ = some (.int .i64 a0_16) := (blk_cell BK322.out 16).trans rfl
                      have hfz67_0 := blk_frozen BK322.out 0
                      have hfz67_1 := blk_frozen BK322.out 1
                      have hfz67_2 := blk_frozen BK322.out 2
                      have hfz67_3 := blk_frozen BK322.out 3
                      have hfz67_4 := blk_frozen BK322.out 4
                      have hfz67_5 := blk_frozen BK322.out 5
                      have hfz67_6 := blk_frozen BK322.out 6
                      have hfz67_7 := blk_frozen BK322.out 7
                      have hfz67_8 := blk_frozen BK322.out 8
                      have hfz67_9 := blk_frozen BK322.out 9
                      have hfz67_10 := blk_frozen BK322.out 10
                      have hfz67_11 := blk_frozen BK322.out 11
                      have hfz67_12 := blk_frozen BK322.out 12
                      have hfz67_13 := blk_frozen BK322.out 13
                      have hfz67_14 := blk_frozen BK322.out 14
                      have hfz67_15 := blk_frozen BK322.out 15
                      have hfz67_16 := blk_frozen BK322.out 16
                      go_wp2
                      go_meet
                      case rel => exact ⟨_, (true), (by first | rfl | (simp; done) | (simp [*]; done)), H', ⟨by first | omega | exact Nat.le_refl _⟩, ⟨by (with_reducible repeat (first | refine blk_drewN ?_ _ | refine blk_drew ?_ | refine blk_alloc ?_ _)); refine blk_far ?_ NB322_329.out _; (with_reducible repeat (first | refine blk_drewN ?_ _ | refine blk_drew ?_ | refine blk_alloc ?_ _)); refine blk_far ?_ NB322_329.out _; (with_reducible repeat (first | refine blk_drewN ?_ _ | refine blk_drew ?_ | refine blk_alloc ?_ _)); refine blk_far ?_ NB322_329.out _; (with_reducible repeat (first | refine blk_drewN ?_ _ | refine blk_drew ?_ | refine blk_alloc ?_ _)); refine blk_far ?_ NB322_329.out _; (with_reducible repeat (first | refine blk_drewN ?_ _ | refine blk_drew ?_ | refine blk_alloc ?_ _)); refine blk_far ?_ NB322_329.out _; (with_reducible repeat (first | refine blk_drewN ?_ _ | refine blk_drew ?_ | refine blk_alloc ?_ _)); exact BK322.out⟩, ⟨by (with_reducible repeat (first | refine blk_drewN ?_ _ | refine blk_drew ?_ | refine blk_alloc ?_ _)); refine blk_put (cs := #[.int .i64 t323, .int .i64 t324, .int .i64 t325, .int .i64 t326, .int .i64 0]) ?_ 4 _ rfl; (with_reducible repeat (first | refine blk_drewN ?_ _ | refine blk_drew ?_ | refine blk_alloc ?_ _)); refine blk_put (cs := #[.int .i64 t323, .int .i64 t324, .int .i64 t325, .int .i64 0, .int .i64 0]) ?_ 3 _ rfl; (with_reducible repeat (first | refine blk_drewN ?_ _ | refine blk_drew ?_ | refine blk_alloc ?_ _)); refine blk_put (cs := #[.int .i64 t323, .int .i64 t324, .int .i64 0, .int .i64 0, .int .i64 0]) ?_ 2 _ rfl; (with_reducible repeat (first | refine blk_drewN ?_ _ | refine blk_drew ?_ | refine blk_alloc ?_ _)); refine blk_put (cs := #[.int .i64 t323, .int .i64 0, .int .i64 0, .int .i64 0, .int .i64 0]) ?_ 1 _ rfl; (with_reducible repeat (first | refine blk_drewN ?_ _ | refine blk_drew ?_ | refine blk_alloc ?_ _)); refine blk_put (cs := #[.int .i64 0, .int .i64 0, .int .i64 0, .int .i64 0, .int .i64 0]) ?_ 0 _ rfl; (with_reducible repeat (first | refine blk_drewN ?_ _ | refine blk_drew ?_ | refine blk_alloc ?_ _)); exact BK329.out⟩, ⟨by repeat (first | (with_reducible first | exact HB.out | apply below_alloc | apply pw_below_drewN | apply below_drew1 | refine below_set ?_ GE322.out | refine below_set ?_ GE329.out) | exact HB.out)⟩⟩
              · rw [if_neg c48] at H
                have c48b0 : (t324 == 0) = false := beq_eq_false_iff_ne.mpr c48
                have c48b1 : (t324 != 0) = true := bne_iff_ne.mpr c48
                by_cases c68 : t323 = 1
                · rw [if_pos c68] at H
                  have c68b0 : (t323 == 1) = true := beq_iff_eq.mpr c68
                  have c68b1 : (t323 != 1) = false := bne_eq_false_iff_eq.mpr c68
                  clear c68
                  by_cases c69 : t325 = 0
                  · rw [if_pos c69] at H
                    have c69b0 : (t325 == 0) = true := beq_iff_eq.mpr c69
                    have c69b1 : (t325 != 0) = false := bne_eq_false_iff_eq.mpr c69
                    clear c69
                    by_cases c70 : t323 = 2
                    · rw [if_pos c70] at H
                      have c70b0 : (t323 == 2) = true := beq_iff_eq.mpr c70
                      have c70b1 : (t323 != 2) = false := bne_eq_false_iff_eq.mpr c70
                      clear c70
                      have H' := Aside0.mk H
                      clear H
                      have hnb71 := NB329_322.out
                      have hnc71 := NB322_329.out
                      have hcz72_0 : w8.cell? ⟨gb329, 0, none⟩ = some (.int .i64 0) := (blk_cell BK329.out 0).trans rfl
                      have hcz72_1 : w8.cell? ⟨gb329, 1, none⟩ = some (.int .i64 0) := (blk_cell BK329.out 1).trans rfl
                      have hcz72_2 : w8.cell? ⟨gb329, 2, none⟩ = some (.int .i64 0) := (blk_cell BK329.out 2).trans rfl
                      have hcz72_3 : w8.cell? ⟨gb329, 3, none⟩ = some (.int .i64 0) := (blk_cell BK329.out 3).trans rfl
                      have hcz72_4 : w8.cell? ⟨gb329, 4, none⟩ = some (.int .i64 0) := (blk_cell BK329.out 4).trans rfl
                      have hfz72_0 := blk_frozen BK329.out 0
                      have hfz72_1 := blk_frozen BK329.out 1
                      have hfz72_2 := blk_frozen BK329.out 2
                      have hfz72_3 := blk_frozen BK329.out 3
                      have hfz72_4 := blk_frozen BK329.out 4
                      have hcz73_0 : w8.cell? ⟨gb322, 0, none⟩ = some (.bool a0_0) := (blk_cell BK322.out 0).trans rfl
                      have hcz73_1 : w8.cell? ⟨gb322, 1, none⟩ = some (.bool a0_1) := (blk_cell BK322.out 1).trans rfl
                      have hcz73_2 : w8.cell? ⟨gb322, 2, none⟩ = some (.int .i64 a0_2) := (blk_cell BK322.out 2).trans rfl
                      have hcz73_3 : w8.cell? ⟨gb322, 3, none⟩ = some (.bool a0_3) := (blk_cell BK322.out 3).trans rfl
                      have hcz73_4 : w8.cell? ⟨gb322, 4, none⟩ = some (.bool a0_4) := (blk_cell BK322.out 4).trans rfl
                      have hcz73_5 : w8.cell? ⟨gb322, 5, none⟩ = some (.bool a0_5) := (blk_cell BK322.out 5).trans rfl
                      have hcz73_6 : w8.cell? ⟨gb322, 6, none⟩ = some (.bool a0_6) := (blk_cell BK322.out 6).trans rfl
                      have hcz73_7 : w8.cell? ⟨gb322, 7, none⟩ = some (.int .i64 a0_7) := (blk_cell BK322.out 7).trans rfl
                      have hcz73_8 : w8.cell? ⟨gb322, 8, none⟩ = some (.bool a0_8) := (blk_cell BK322.out 8).trans rfl
                      have hcz73_9 : w8.cell? ⟨gb322, 9, none⟩ = some (.bool a0_9) := (blk_cell BK322.out 9).trans rfl
                      have hcz73_10 : w8.cell? ⟨gb322, 10, none⟩ = some (.bool a0_10) := (blk_cell BK322.out 10).trans rfl
                      have hcz73_11 : w8.cell? ⟨gb322, 11, none⟩ = some (.bool a0_11) := (blk_cell BK322.out 11).trans rfl
                      have hcz73_12 : w8.cell? ⟨gb322, 12, none⟩ = some (.bool a0_12) := (blk_cell BK322.out 12).trans rfl
                      have hcz73_13 : w8.cell? ⟨gb322, 13, none⟩ = some (.bool a0_13) := (blk_cell BK322.out 13).trans rfl
                      have hcz73_14 : w8.cell? ⟨gb322, 14, none⟩ = some (.bool a0_14) := (blk_cell BK322.out 14).trans rfl
                      have hcz73_15 : w8.cell? ⟨gb322, 15, none⟩ = some (.bool a0_15) := (blk_cell BK322.out 15).trans rfl
                      have hcz73_16 : w8.cell? ⟨gb322, 16, none⟩ = some (.int .i64 a0_16) := (blk_cell BK322.out 16).trans rfl
                      have hfz73_0 := blk_frozen BK322.out 0
                      have hfz73_1 := blk_frozen BK322.out 1
                      have hfz73_2 := blk_frozen BK322.out 2
                      have hfz73_3 := blk_frozen BK322.out 3
                      have hfz73_4 := blk_frozen BK322.out 4
                      have hfz73_5 := blk_frozen BK322.out 5
                      have hfz73_6 := blk_frozen BK322.out 6
                      have hfz73_7 := blk_frozen BK322.out 7
                      have hfz73_8 := blk_frozen BK322.out 8
                      have hfz73_9 := blk_frozen BK322.out 9
                      have hfz73_10 := blk_frozen BK322.out 10
                      have hfz73_11 := blk_frozen BK322.out 11
                      have hfz73_12 := blk_frozen BK322.out 12
                      have hfz73_13 := blk_frozen BK322.out 13
                      have hfz73_14 := blk_frozen BK322.out 14
                      have hfz73_15 := blk_frozen BK322.out 15
                      have hfz73_16 := blk_frozen BK322.out 16
                      go_wp2
                      go_meet
                      case rel => exact ⟨_, (true), (by first | rfl | (simp; done) | (simp [*]; done)), H', ⟨by first | omega | exact Nat.le_refl _⟩, ⟨by (with_reducible repeat (first | refine blk_drewN ?_ _ | refine blk_drew ?_ | refine blk_alloc ?_ _)); refine blk_far ?_ NB322_329.out _; (with_reducible repeat (first | refine blk_drewN ?_ _ | refine blk_drew ?_ | refine blk_alloc ?_ _)); refine blk_far ?_ NB322_329.out _; (with_reducible repeat (first | refine blk_drewN ?_ _ | refine blk_drew ?_ | refine blk_alloc ?_ _)); refine blk_far ?_ NB322_329.out _; (with_reducible repeat (first | refine blk_drewN ?_ _ | refine blk_drew ?_ | refine blk_alloc ?_ _)); refine blk_far ?_ NB322_329.out _; (with_reducible repeat (first | refine blk_drewN ?_ _ | refine blk_drew ?_ | refine blk_alloc ?_ _)); refine blk_far ?_ NB322_329.out _; (with_reducible repeat (first | refine blk_drewN ?_ _ | refine blk_drew ?_ | refine blk_alloc ?_ _)); exact BK322.out⟩, ⟨by (with_reducible repeat (first | refine blk_drewN ?_ _ | refine blk_drew ?_ | refine blk_alloc ?_ _)); refine blk_put (cs := #[.int .i64 t323, .int .i64 t324, .int .i64 t325, .int .i64 t326, .int .i64 0]) ?_ 4 _ rfl; (with_reducible repeat (first | refine blk_drewN ?_ _ | refine blk_drew ?_ | refine blk_alloc ?_ _)); refine blk_put (cs := #[.int .i64 t323, .int .i64 t324, .int .i64 t325, .int .i64 0, .int .i64 0]) ?_ 3 _ rfl; (with_reducible repeat (first | refine blk_drewN ?_ _ | refine blk_drew ?_ | refine blk_alloc ?_ _)); refine blk_put (cs := #[.int .i64 t323, .int .i64 t324, .int .i64 0, .int .i64 0, .int .i64 0]) ?_ 2 _ rfl; (with_reducible repeat (first | refine blk_drewN ?_ _ | refine blk_drew ?_ | refine blk_alloc ?_ _)); refine blk_put (cs := #[.int .i64 t323, .int .i64 0, .int .i64 0, .int .i64 0, .int .i64 0]) ?_ 1 _ rfl; (with_reducible repeat (first | refine blk_drewN ?_ _ | refine blk_drew ?_ | refine blk_alloc ?_ _)); refine blk_put (cs := #[.int .i64 0, .int .i64 0, .int .i64 0, .int .i64 0, .int .i64 0]) ?_ 0 _ rfl; (with_reducible repeat (first | refine blk_drewN ?_ _ | refine blk_drew ?_ | refine blk_alloc ?_ _)); exact BK329.out⟩, ⟨by repeat (first | (with_reducible first | exact HB.out | apply below_alloc | apply pw_below_drewN | apply below_drew1 | refine below_set ?_ GE322.out | refine below_set ?_ GE329.out) | exact HB.out)⟩⟩
                    · rw [if_neg c70] at H
                      have c70b0 : (t323 == 2) = false := beq_eq_false_iff_ne.mpr c70
                      have c70b1 : (t323 != 2) = true := bne_iff_ne.mpr c70
                      have H' := Aside0.mk H
                      clear H
                      have hnb74 := NB329_322.out
                      have hnc74 := NB322_329.out
                      have hcz75_0 : w8.cell? ⟨gb329, 0, none⟩ = some (.int .i64 0) := (blk_cell BK329.out 0).trans rfl
                      have hcz75_1 : w8.cell? ⟨gb329, 1, none⟩ = some (.int .i64 0) := (blk_cell BK329.out 1).trans rfl
                      have hcz75_2 : w8.cell? ⟨gb329, 2, none⟩ = some (.int .i64 0) := (blk_cell BK329.out 2).trans rfl
                      have hcz75_3 : w8.cell? ⟨gb329, 3, none⟩ = some (.int .i64 0) := (blk_cell BK329.out 3).trans rfl
                      have hcz75_4 : w8.cell? ⟨gb329, 4, none⟩ = some (.int .i64 0) := (blk_cell BK329.out 4).trans rfl
                      have hfz75_0 := blk_frozen BK329.out 0
                      have hfz75_1 := blk_frozen BK329.out 1
                      have hfz75_2 := blk_frozen BK329.out 2
                      have hfz75_3 := blk_frozen BK329.out 3
                      have hfz75_4 := blk_frozen BK329.out 4
                      have hcz76_0 : w8.cell? ⟨gb322, 0, none⟩ = some (.bool a0_0) := (blk_cell BK322.out 0).trans rfl
                      have hcz76_1 : w8.cell? ⟨gb322, 1, none⟩ = some (.bool a0_1) := (blk_cell BK322.out 1).trans rfl
                      have hcz76_2 : w8.cell? ⟨gb322, 2, none⟩ = some (.int .i64 a0_2) := (blk_cell BK322.out 2).trans rfl
                      have hcz76_3 : w8.cell? ⟨gb322, 3, none⟩ = some (.bool a0_3) := (blk_cell BK322.out 3).trans rfl
                      have hcz76_4 : w8.cell? ⟨gb322, 4, none⟩ = some (.bool a0_4) := (blk_cell BK322.out 4).trans rfl
                      have hcz76_5 : w8.cell? ⟨gb322, 5, none⟩ = some (.bool a0_5) := (blk_cell BK322.out 5).trans rfl
                      have hcz76_6 : w8.cell? ⟨gb322, 6, none⟩ = some (.bool a0_6) := (blk_cell BK322.out 6).trans rfl
                      have hcz76_7 : w8.cell? ⟨gb322, 7, none⟩ = some (.int .i64 a0_7) := (blk_cell BK322.out 7).trans rfl
                      have hcz76_8 : w8.cell? ⟨gb322, 8, none⟩ = some (.bool a0_8) := (blk_cell BK322.out 8).trans rfl
                      have hcz76_9 : w8.cell? ⟨gb322, 9, none⟩ = some (.bool a0_9) := (blk_cell BK322.out 9).trans rfl
                      have hcz76_10 : w8.cell? ⟨gb322, 10, none⟩ = some (.bool a0_10) := (blk_cell BK322.out 10).trans rfl
                      have hcz76_11 : w8.cell? ⟨gb322, 11, none⟩ = some (.bool a0_11) := (blk_cell BK322.out 11).trans rfl
                      have hcz76_12 : w8.cell? ⟨gb322, 12, none⟩ = some (.bool a0_12) := (blk_cell BK322.out 12).trans rfl
                      have hcz76_13 : w8.cell? ⟨gb322, 13, none⟩ = some (.bool a0_13) := (blk_cell BK322.out 13).trans rfl
                      have hcz76_14 : w8.cell? ⟨gb322, 14, none⟩ = some (.bool a0_14) := (blk_cell BK322.out 14).trans rfl
                      have hcz76_15 : w8.cell? ⟨gb322, 15, none⟩ = some (.bool a0_15) := (blk_cell BK322.out 15).trans rfl
                      have hcz76_16 : w8.cell? ⟨gb322, 16, none⟩ = some (.int .i64 a0_16) := (blk_cell BK322.out 16).trans rfl
                      have hfz76_0 := blk_frozen BK322.out 0
                      have hfz76_1 := blk_frozen BK322.out 1
                      have hfz76_2 := blk_frozen BK322.out 2
                      have hfz76_3 := blk_frozen BK322.out 3
                      have hfz76_4 := blk_frozen BK322.out 4
                      have hfz76_5 := blk_frozen BK322.out 5
                      have hfz76_6 := blk_frozen BK322.out 6
                      have hfz76_7 := blk_frozen BK322.out 7
                      have hfz76_8 := blk_frozen BK322.out 8
                      have hfz76_9 := blk_frozen BK322.out 9
                      have hfz76_10 := blk_frozen BK322.out 10
                      have hfz76_11 := blk_frozen BK322.out 11
                      have hfz76_12 := blk_frozen BK322.out 12
                      have hfz76_13 := blk_frozen BK322.out 13
                      have hfz76_14 := blk_frozen BK322.out 14
                      have hfz76_15 := blk_frozen BK322.out 15
                      have hfz76_16 := blk_frozen BK322.out 16
                      go_wp2
                      go_meet
                      case rel => exact ⟨_, (false), (by first | rfl | (simp; done) | (simp [*]; done)), H', ⟨by first | omega | exact Nat.le_refl _⟩, ⟨by (with_reducible repeat (first | refine blk_drewN ?_ _ | refine blk_drew ?_ | refine blk_alloc ?_ _)); refine blk_far ?_ NB322_329.out _; (with_reducible repeat (first | refine blk_drewN ?_ _ | refine blk_drew ?_ | refine blk_alloc ?_ _)); refine blk_far ?_ NB322_329.out _; (with_reducible repeat (first | refine blk_drewN ?_ _ | refine blk_drew ?_ | refine blk_alloc ?_ _)); refine blk_far ?_ NB322_329.out _; (with_reducible repeat (first | refine blk_drewN ?_ _ | refine blk_drew ?_ | refine blk_alloc ?_ _)); refine blk_far ?_ NB322_329.out _; (with_reducible repeat (first | refine blk_drewN ?_ _ | refine blk_drew ?_ | refine blk_alloc ?_ _)); refine blk_far ?_ NB322_329.out _; (with_reducible repeat (first | refine blk_drewN ?_ _ | refine blk_drew ?_ | refine blk_alloc ?_ _)); exact BK322.out⟩, ⟨by (with_reducible repeat (first | refine blk_drewN ?_ _ | refine blk_drew ?_ | refine blk_alloc ?_ _)); refine blk_put (cs := #[.int .i64 t323, .int .i64 t324, .int .i64 t325, .int .i64 t326, .int .i64 0]) ?_ 4 _ rfl; (with_reducible repeat (first | refine blk_drewN ?_ _ | refine blk_drew ?_ | refine blk_alloc ?_ _)); refine blk_put (cs := #[.int .i64 t323, .int .i64 t324, .int .i64 t325, .int .i64 0, .int .i64 0]) ?_ 3 _ rfl; (with_reducible repeat (first | refine blk_drewN ?_ _ | refine blk_drew ?_ | refine blk_alloc ?_ _)); refine blk_put (cs := #[.int .i64 t323, .int .i64 t324, .int .i64 0, .int .i64 0, .int .i64 0]) ?_ 2 _ rfl; (with_reducible repeat (first | refine blk_drewN ?_ _ | refine blk_drew ?_ | refine blk_alloc ?_ _)); refine blk_put (cs := #[.int .i64 t323, .int .i64 0, .int .i64 0, .int .i64 0, .int .i64 0]) ?_ 1 _ rfl; (with_reducible repeat (first | refine blk_drewN ?_ _ | refine blk_drew ?_ | refine blk_alloc ?_ _)); refine blk_put (cs := #[.int .i64 0, .int .i64 0, .int .i64 0, .int .i64 0, .int .i64 0]) ?_ 0 _ rfl; (with_reducible repeat (first | refine blk_drewN ?_ _ | refine blk_drew ?_ | refine blk_alloc ?_ _)); exact BK329.out⟩, ⟨by repeat (first | (with_reducible first | exact HB.out | apply below_alloc | apply pw_below_drewN | apply below_drew1 | refine below_set ?_ GE322.out | refine below_set ?_ GE329.out) | exact HB.out)⟩⟩
                  · rw [if_neg c69] at H
                    have c69b0 : (t325 == 0) = false := beq_eq_false_iff_ne.mpr c69
                    have c69b1 : (t325 != 0) = true := bne_iff_ne.mpr c69
                    by_cases c77 : t323 = 2
                    · rw [if_pos c77] at H
                      have c77b0 : (t323 == 2) = true := beq_iff_eq.mpr c77
                      have c77b1 : (t323 != 2) = false := bne_eq_false_iff_eq.mpr c77
                      clear c77
                      have H' := Aside0.mk H
                      clear H
                      have hnb78 := NB329_322.out
                      have hnc78 := NB322_329.out
                      have hcz79_0 : w8.cell? ⟨gb329, 0, none⟩ = some (.int .i64 0) := (blk_cell BK329.out 0).trans rfl
                      have hcz79_1 : w8.cell? ⟨gb329, 1, none⟩ = some (.int .i64 0) := (blk_cell BK329.out 1).trans rfl
                      have hcz79_2 : w8.cell? ⟨gb329, 2, none⟩ = some (.int .i64 0) := (blk_cell BK329.out 2).trans rfl
                      have hcz79_3 : w8.cell? ⟨gb329, 3, none⟩ = some (.int .i64 0) := (blk_cell BK329.out 3).trans rfl
                      have hcz79_4 : w8.cell? ⟨gb329, 4, none⟩ = some (.int .i64 0) := (blk_cell BK329.out 4).trans rfl
                      have hfz79_0 := blk_frozen BK329.out 0
                      have hfz79_1 := blk_frozen BK329.out 1
                      have hfz79_2 := blk_frozen BK329.out 2
                      have hfz79_3 := blk_frozen BK329.out 3
                      have hfz79_4 := blk_frozen BK329.out 4
                      have hcz80_0 : w8.cell? ⟨gb322, 0, none⟩ = some (.bool a0_0) := (blk_cell BK322.out 0).trans rfl
                      have hcz80_1 : w8.cell? ⟨gb322, 1, none⟩ = some (.bool a0_1) := (blk_cell BK322.out 1).trans rfl
                      have hcz80_2 : w8.cell? ⟨gb322, 2, none⟩ = some (.int .i64 a0_2) := (blk_cell BK322.out 2).trans rfl
                      have hcz80_3 : w8.cell? ⟨gb322, 3, none⟩ = some (.bool a0_3) := (blk_cell BK322.out 3).trans rfl
                      have hcz80_4 : w8.cell? ⟨gb322, 4, none⟩ = some (.bool a0_4) := (blk_cell BK322.out 4).trans rfl
                      have hcz80_5 : w8.cell? ⟨gb322, 5, none⟩ = some (.bool a0_5) := (blk_cell BK322.out 5).trans rfl
                      have hcz80_6 : w8.cell? ⟨gb322, 6, none⟩ = some (.bool a0_6) := (blk_cell BK322.out 6).trans rfl
                      have hcz80_7 : w8.cell? ⟨gb322, 7, none⟩ = some (.int .i64 a0_7) := (blk_cell BK322.out 7).trans rfl
                      have hcz80_8 : w8.cell? ⟨gb322, 8, none⟩ = some (.bool a0_8) := (blk_cell BK322.out 8).trans rfl
                      have hcz80_9 : w8.cell? ⟨gb322, 9, none⟩ = some (.bool a0_9) := (blk_cell BK322.out 9).trans rfl
                      have hcz80_10 : w8.cell? ⟨gb322, 10, none⟩ = some (.bool a0_10) := (blk_cell BK322.out 10).trans rfl
                      have hcz80_11 : w8.cell? ⟨gb322, 11, none⟩ = some (.bool a0_11) := (blk_cell BK322.out 11).trans rfl
                      have hcz80_12 : w8.cell? ⟨gb322, 12, none⟩ = some (.bool a0_12) := (blk_cell BK322.out 12).trans rfl
                      have hcz80_13 : w8.cell? ⟨gb322, 13, none⟩ = some (.bool a0_13) := (blk_cell BK322.out 13).trans rfl
                      have hcz80_14 : w8.cell? ⟨gb322, 14, none⟩ = some (.bool a0_14) := (blk_cell BK322.out 14).trans rfl
                      have hcz80_15 : w8.cell? ⟨gb322, 15, none⟩ = some (.bool a0_15) := (blk_cell BK322.out 15).trans rfl
                      have hcz80_16 : w8.cell? ⟨gb322, 16, none⟩ = some (.int .i64 a0_16) := (blk_cell BK322.out 16).trans rfl
                      have hfz80_0 := blk_frozen BK322.out 0
                      have hfz80_1 := blk_frozen BK322.out 1
                      have hfz80_2 := blk_frozen BK322.out 2
                      have hfz80_3 := blk_frozen BK322.out 3
                      have hfz80_4 := blk_frozen BK322.out 4
                      have hfz80_5 := blk_frozen BK322.out 5
                      have hfz80_6 := blk_frozen BK322.out 6
                      have hfz80_7 := blk_frozen BK322.out 7
                      have hfz80_8 := blk_frozen BK322.out 8
                      have hfz80_9 := blk_frozen BK322.out 9
                      have hfz80_10 := blk_frozen BK322.out 10
                      have hfz80_11 := blk_frozen BK322.out 11
                      have hfz80_12 := blk_frozen BK322.out 12
                      have hfz80_13 := blk_frozen BK322.out 13
                      have hfz80_14 := blk_frozen BK322.out 14
                      have hfz80_15 := blk_frozen BK322.out 15
                      have hfz80_16 := blk_frozen BK322.out 16
                      go_wp2
                      go_meet
                      case rel => exact ⟨_, (false), (by first | rfl | (simp; done) | (simp [*]; done)), H', ⟨by first | omega | exact Nat.le_refl _⟩, ⟨by (with_reducible repeat (first | refine blk_drewN ?_ _ | refine blk_drew ?_ | refine blk_alloc ?_ _)); refine blk_far ?_ NB322_329.out _; (with_reducible repeat (first | refine blk_drewN ?_ _ | refine blk_drew ?_ | refine blk_alloc ?_ _)); refine blk_far ?_ NB322_329.out _; (with_reducible repeat (first | refine blk_drewN ?_ _ | refine blk_drew ?_ | refine blk_alloc ?_ _)); refine blk_far ?_ NB322_329.out _; (with_reducible repeat (first | refine blk_drewN ?_ _ | refine blk_drew ?_ | refine blk_alloc ?_ _)); refine blk_far ?_ NB322_329.out _; (with_reducible repeat (first | refine blk_drewN ?_ _ | refine blk_drew ?_ | refine blk_alloc ?_ _)); refine blk_far ?_ NB322_329.out _; (with_reducible repeat (first | refine blk_drewN ?_ _ | refine blk_drew ?_ | refine blk_alloc ?_ _)); exact BK322.out⟩, ⟨by (with_reducible repeat (first | refine blk_drewN ?_ _ | refine blk_drew ?_ | refine blk_alloc ?_ _)); refine blk_put (cs := #[.int .i64 t323, .int .i64 t324, .int .i64 t325, .int .i64 t326, .int .i64 0]) ?_ 4 _ rfl; (with_reducible repeat (first | refine blk_drewN ?_ _ | refine blk_drew ?_ | refine blk_alloc ?_ _)); refine blk_put (cs := #[.int .i64 t323, .int .i64 t324, .int .i64 t325, .int .i64 0, .int .i64 0]) ?_ 3 _ rfl; (with_reducible repeat (first | refine blk_drewN ?_ _ | refine blk_drew ?_ | refine blk_alloc ?_ _)); refine blk_put (cs := #[.int .i64 t323, .int .i64 t324, .int .i64 0, .int .i64 0, .int .i64 0]) ?_ 2 _ rfl; (with_reducible repeat (first | refine blk_drewN ?_ _ | refine blk_drew ?_ | refine blk_alloc ?_ _)); refine blk_put (cs := #[.int .i64 t323, .int .i64 0, .int .i64 0, .int .i64 0, .int .i64 0]) ?_ 1 _ rfl; (with_reducible repeat (first | refine blk_drewN ?_ _ | refine blk_drew ?_ | refine blk_alloc ?_ _)); refine blk_put (cs := #[.int .i64 0, .int .i64 0, .int .i64 0, .int .i64 0, .int .i64 0]) ?_ 0 _ rfl; (with_reducible repeat (first | refine blk_drewN ?_ _ | refine blk_drew ?_ | refine blk_alloc ?_ _)); exact BK329.out⟩, ⟨by repeat (first | (with_reducible first | exact HB.out | apply below_alloc | apply pw_below_drewN | apply below_drew1 | refine below_set ?_ GE322.out | refine below_set ?_ GE329.out) | exact HB.out)⟩⟩
                    · rw [if_neg c77] at H
                      have c77b0 : (t323 == 2) = false := beq_eq_false_iff_ne.mpr c77
                      have c77b1 : (t323 != 2) = true := bne_iff_ne.mpr c77
                      have H' := Aside0.mk H
                      clear H
                      have hnb81 := NB329_322.out
                      have hnc81 := NB322_329.out
                      have hcz82_0 : w8.cell? ⟨gb329, 0, none⟩ = some (.int .i64 0) := (blk_cell BK329.out 0).trans rfl
                      have hcz82_1 : w8.cell? ⟨gb329, 1, none⟩ = some (.int .i64 0) := (blk_cell BK329.out 1).trans rfl
                      have hcz82_2 : w8.cell? ⟨gb329, 2, none⟩ = some (.int .i64 0) := (blk_cell BK329.out 2).trans rfl
                      have hcz82_3 : w8.cell? ⟨gb329, 3, none⟩ = some (.int .i64 0) := (blk_cell BK329.out 3).trans rfl
                      have hcz82_4 : w8.cell? ⟨gb329, 4, none⟩ = some (.int .i64 0) := (blk_cell BK329.out 4).trans rfl
                      have hfz82_0 := blk_frozen BK329.out 0
                      have hfz82_1 := blk_frozen BK329.out 1
                      have hfz82_2 := blk_frozen BK329.out 2
                      have hfz82_3 := blk_frozen BK329.out 3
                      have hfz82_4 := blk_frozen BK329.out 4
                      have hcz83_0 : w8.cell? ⟨gb322, 0, none⟩ = some (.bool a0_0) := (blk_cell BK322.out 0).trans rfl
                      have hcz83_1 : w8.cell? ⟨gb322, 1, none⟩ = some (.bool a0_1) := (blk_cell BK322.out 1).trans rfl
                      have hcz83_2 : w8.cell? ⟨gb322, 2, none⟩ = some (.int .i64 a0_2) := (blk_cell BK322.out 2).trans rfl
                      have hcz83_3 : w8.cell? ⟨gb322, 3, none⟩ = some (.bool a0_3) := (blk_cell BK322.out 3).trans rfl
                      have hcz83_4 : w8.cell? ⟨gb322, 4, none⟩ = some (.bool a0_4) := (blk_cell BK322.out 4).trans rfl
                      have hcz83_5 : w8.cell? ⟨gb322, 5, none⟩ = some (.bool a0_5) := (blk_cell BK322.out 5).trans rfl
                      have hcz83_6 : w8.cell? ⟨gb322, 6, none⟩ = some (.bool a0_6) := (blk_cell BK322.out 6).trans rfl
                      have hcz83_7 : w8.cell? ⟨gb322, 7, none⟩ = some (.int .i64 a0_7) := (blk_cell BK322.out 7).trans rfl
                      have hcz83_8 : w8.cell? ⟨gb322, 8, none⟩ = some (.bool a0_8) := (blk_cell BK322.out 8).trans rfl
                      have hcz83_9 : w8.cell? ⟨gb322, 9, none⟩ = some (.bool a0_9) := (blk_cell BK322.out 9).trans rfl
                      have hcz83_10 : w8.cell? ⟨gb322, 10, none⟩ = some (.bool a0_10) := (blk_cell BK322.out 10).trans rfl
                      have hcz83_11 : w8.cell? ⟨gb322, 11, none⟩ = some (.bool a0_11) := (blk_cell BK322.out 11).trans rfl
                      have hcz83_12 : w8.cell? ⟨gb322, 12, none⟩ = some (.bool a0_12) := (blk_cell BK322.out 12).trans rfl
                      have hcz83_13 : w8.cell? ⟨gb322, 13, none⟩ = some (.bool a0_13) := (blk_cell BK322.out 13).trans rfl
                      have hcz83_14 : w8.cell? ⟨gb322, 14, none⟩ = some (.bool a0_14) := (blk_cell BK322.out 14).trans rfl
                      have hcz83_15 : w8.cell? ⟨gb322, 15, none⟩ = some (.bool a0_15) := (blk_cell BK322.out 15).trans rfl
                      have hcz83_16 : w8.cell? ⟨gb322, 16, none⟩ = some (.int .i64 a0_16) := (blk_cell BK322.out 16).trans rfl
                      have hfz83_0 := blk_frozen BK322.out 0
                      have hfz83_1 := blk_frozen BK322.out 1
                      have hfz83_2 := blk_frozen BK322.out 2
                      have hfz83_3 := blk_frozen BK322.out 3
                      have hfz83_4 := blk_frozen BK322.out 4
                      have hfz83_5 := blk_frozen BK322.out 5
                      have hfz83_6 := blk_frozen BK322.out 6
                      have hfz83_7 := blk_frozen BK322.out 7
                      have hfz83_8 := blk_frozen BK322.out 8
                      have hfz83_9 := blk_frozen BK322.out 9
                      have hfz83_10 := blk_frozen BK322.out 10
                      have hfz83_11 := blk_frozen BK322.out 11
                      have hfz83_12 := blk_frozen BK322.out 12
                      have hfz83_13 := blk_frozen BK322.out 13
                      have hfz83_14 := blk_frozen BK322.out 14
                      have hfz83_15 := blk_frozen BK322.out 15
                      have hfz83_16 := blk_frozen BK322.out 16
                      go_wp2
                      go_meet
                      case rel => exact ⟨_, (true), (by first | rfl | (simp; done) | (simp [*]; done)), H', ⟨by first | omega | exact Nat.le_refl _⟩, ⟨by (with_reducible repeat (first | refine blk_drewN ?_ _ | refine blk_drew ?_ | refine blk_alloc ?_ _)); refine blk_far ?_ NB322_329.out _; (with_reducible repeat (first | refine blk_drewN ?_ _ | refine blk_drew ?_ | refine blk_alloc ?_ _)); refine blk_far ?_ NB322_329.out _; (with_reducible repeat (first | refine blk_drewN ?_ _ | refine blk_drew ?_ | refine blk_alloc ?_ _)); refine blk_far ?_ NB322_329.out _; (with_reducible repeat (first | refine blk_drewN ?_ _ | refine blk_drew ?_ | refine blk_alloc ?_ _)); refine blk_far ?_ NB322_329.out _; (with_reducible repeat (first | refine blk_drewN ?_ _ | refine blk_drew ?_ | refine blk_alloc ?_ _)); refine blk_far ?_ NB322_329.out _; (with_reducible repeat (first | refine blk_drewN ?_ _ | refine blk_drew ?_ | refine blk_alloc ?_ _)); exact BK322.out⟩, ⟨by (with_reducible repeat (first | refine blk_drewN ?_ _ | refine blk_drew ?_ | refine blk_alloc ?_ _)); refine blk_put (cs := #[.int .i64 t323, .int .i64 t324, .int .i64 t325, .int .i64 t326, .int .i64 0]) ?_ 4 _ rfl; (with_reducible repeat (first | refine blk_drewN ?_ _ | refine blk_drew ?_ | refine blk_alloc ?_ _)); refine blk_put (cs := #[.int .i64 t323, .int .i64 t324, .int .i64 t325, .int .i64 0, .int .i64 0]) ?_ 3 _ rfl; (with_reducible repeat (first | refine blk_drewN ?_ _ | refine blk_drew ?_ | refine blk_alloc ?_ _)); refine blk_put (cs := #[.int .i64 t323, .int .i64 t324, .int .i64 0, .int .i64 0, .int .i64 0]) ?_ 2 _ rfl; (with_reducible repeat (first | refine blk_drewN ?_ _ | refine blk_drew ?_ | refine blk_alloc ?_ _)); refine blk_put (cs := #[.int .i64 t323, .int .i64 0, .int .i64 0, .int .i64 0, .int .i64 0]) ?_ 1 _ rfl; (with_reducible repeat (first | refine blk_drewN ?_ _ | refine blk_drew ?_ | refine blk_alloc ?_ _)); refine blk_put (cs := #[.int .i64 0, .int .i64 0, .int .i64 0, .int .i64 0, .int .i64 0]) ?_ 0 _ rfl; (with_reducible repeat (first | refine blk_drewN ?_ _ | refine blk_drew ?_ | refine blk_alloc ?_ _)); exact BK329.out⟩, ⟨by repeat (first | (with_reducible first | exact HB.out | apply below_alloc | apply pw_below_drewN | apply below_drew1 | refine below_set ?_ GE322.out | refine below_set ?_ GE329.out) | exact HB.out)⟩⟩
                · rw [if_neg c68] at H
                  have c68b0 : (t323 == 1) = false := beq_eq_false_iff_ne.mpr c68
                  have c68b1 : (t323 != 1) = true := bne_iff_ne.mpr c68
                  have H' := Aside0.mk H
                  clear H
                  have hnb84 := NB329_322.out
                  have hnc84 := NB322_329.out
                  have hcz85_0 : w8.cell? ⟨gb329, 0, none⟩ = some (.int .i64 0) := (blk_cell BK329.out 0).trans rfl
                  have hcz85_1 : w8.cell? ⟨gb329, 1, none⟩ = some (.int .i64 0) := (blk_cell BK329.out 1).trans rfl
                  have hcz85_2 : w8.cell? ⟨gb329, 2, none⟩ = some (.int .i64 0) := (blk_cell BK329.out 2).trans rfl
                  have hcz85_3 : w8.cell? ⟨gb329, 3, none⟩ = some (.int .i64 0) := (blk_cell BK329.out 3).trans rfl
                  have hcz85_4 : w8.cell? ⟨gb329, 4, none⟩ = some (.int .i64 0) := (blk_cell BK329.out 4).trans rfl
                  have hfz85_0 := blk_frozen BK329.out 0
                  have hfz85_1 := blk_frozen BK329.out 1
                  have hfz85_2 := blk_frozen BK329.out 2
                  have hfz85_3 := blk_frozen BK329.out 3
                  have hfz85_4 := blk_frozen BK329.out 4
                  have hcz86_0 : w8.cell? ⟨gb322, 0, none⟩ = some (.bool a0_0) := (blk_cell BK322.out 0).trans rfl
                  have hcz86_1 : w8.cell? ⟨gb322, 1, none⟩ = some (.bool a0_1) := (blk_cell BK322.out 1).trans rfl
                  have hcz86_2 : w8.cell? ⟨gb322, 2, none⟩ = some (.int .i64 a0_2) := (blk_cell BK322.out 2).trans rfl
                  have hcz86_3 : w8.cell? ⟨gb322, 3, none⟩ = some (.bool a0_3) := (blk_cell BK322.out 3).trans rfl
                  have hcz86_4 : w8.cell? ⟨gb322, 4, none⟩ = some (.bool a0_4) := (blk_cell BK322.out 4).trans rfl
                  have hcz86_5 : w8.cell? ⟨gb322, 5, none⟩ = some (.bool a0_5) := (blk_cell BK322.out 5).trans rfl
                  have hcz86_6 : w8.cell? ⟨gb322, 6, none⟩ = some (.bool a0_6) := (blk_cell BK322.out 6).trans rfl
                  have hcz86_7 : w8.cell? ⟨gb322, 7, none⟩ = some (.int .i64 a0_7) := (blk_cell BK322.out 7).trans rfl
                  have hcz86_8 : w8.cell? ⟨gb322, 8, none⟩ = some (.bool a0_8) := (blk_cell BK322.out 8).trans rfl
                  have hcz86_9 : w8.cell? ⟨gb322, 9, none⟩ = some (.bool a0_9) := (blk_cell BK322.out 9).trans rfl
                  have hcz86_10 : w8.cell? ⟨gb322, 10, none⟩ = some (.bool a0_10) := (blk_cell BK322.out 10).trans rfl
                  have hcz86_11 : w8.cell? ⟨gb322, 11, none⟩ = some (.bool a0_11) := (blk_cell BK322.out 11).trans rfl
                  have hcz86_12 : w8.cell? ⟨gb322, 12, none⟩ = some (.bool a0_12) := (blk_cell BK322.out 12).trans rfl
                  have hcz86_13 : w8.cell? ⟨gb322, 13, none⟩ = some (.bool a0_13) := (blk_cell BK322.out 13).trans rfl
                  have hcz86_14 : w8.cell? ⟨gb322, 14, none⟩ = some (.bool a0_14) := (blk_cell BK322.out 14).trans rfl
                  have hcz86_15 : w8.cell? ⟨gb322, 15, none⟩ = some (.bool a0_15) := (blk_cell BK322.out 15).trans rfl
                  have hcz86_16 : w8.cell? ⟨gb322, 16, none⟩ = some (.int .i64 a0_16) := (blk_cell BK322.out 16).trans rfl
                  have hfz86_0 := blk_frozen BK322.out 0
                  have hfz86_1 := blk_frozen BK322.out 1
                  have hfz86_2 := blk_frozen BK322.out 2
                  have hfz86_3 := blk_frozen BK322.out 3
                  have hfz86_4 := blk_frozen BK322.out 4
                  have hfz86_5 := blk_frozen BK322.out 5
                  have hfz86_6 := blk_frozen BK322.out 6
                  have hfz86_7 := blk_frozen BK322.out 7
                  have hfz86_8 := blk_frozen BK322.out 8
                  have hfz86_9 := blk_frozen BK322.out 9
                  have hfz86_10 := blk_frozen BK322.out 10
                  have hfz86_11 := blk_frozen BK322.out 11
                  have hfz86_12 := blk_frozen BK322.out 12
                  have hfz86_13 := blk_frozen BK322.out 13
                  have hfz86_14 := blk_frozen BK322.out 14
                  have hfz86_15 := blk_frozen BK322.out 15
                  have hfz86_16 := blk_frozen BK322.out 16
                  go_wp2
                  go_meet
                  case rel => exact ⟨_, (true), (by first | rfl | (simp; done) | (simp [*]; done)), H', ⟨by first | omega | exact Nat.le_refl _⟩, ⟨by (with_reducible repeat (first | refine blk_drewN ?_ _ | refine blk_drew ?_ | refine blk_alloc ?_ _)); refine blk_far ?_ NB322_329.out _; (with_reducible repeat (first | refine blk_drewN ?_ _ | refine blk_drew ?_ | refine blk_alloc ?_ _)); refine blk_far ?_ NB322_329.out _; (with_reducible repeat (first | refine blk_drewN ?_ _ | refine blk_drew ?_ | refine blk_alloc ?_ _)); refine blk_far ?_ NB322_329.out _; (with_reducible repeat (first | refine blk_drewN ?_ _ | refine blk_drew ?_ | refine blk_alloc ?_ _)); refine blk_far ?_ NB322_329.out _; (with_reducible repeat (first | refine blk_drewN ?_ _ | refine blk_drew ?_ | refine blk_alloc ?_ _)); refine blk_far ?_ NB322_329.out _; (with_reducible repeat (first | refine blk_drewN ?_ _ | refine blk_drew ?_ | refine blk_alloc ?_ _)); exact BK322.out⟩, ⟨by (with_reducible repeat (first | refine blk_drewN ?_ _ | refine blk_drew ?_ | refine blk_alloc ?_ _)); refine blk_put (cs := #[.int .i64 t323, .int .i64 t324, .int .i64 t325, .int .i64 t326, .int .i64 0]) ?_ 4 _ rfl; (with_reducible repeat (first | refine blk_drewN ?_ _ | refine blk_drew ?_ | refine blk_alloc ?_ _)); refine blk_put (cs := #[.int .i64 t323, .int .i64 t324, .int .i64 t325, .int .i64 0, .int .i64 0]) ?_ 3 _ rfl; (with_reducible repeat (first | refine blk_drewN ?_ _ | refine blk_drew ?_ | refine blk_alloc ?_ _)); refine blk_put (cs := #[.int .i64 t323, .int .i64 t324, .int .i64 0, .int .i64 0, .int .i64 0]) ?_ 2 _ rfl; (with_reducible repeat (first | refine blk_drewN ?_ _ | refine blk_drew ?_ | refine blk_alloc ?_ _)); refine blk_put (cs := #[.int .i64 t323, .int .i64 0, .int .i64 0, .int .i64 0, .int .i64 0]) ?_ 1 _ rfl; (with_reducible repeat (first | refine blk_drewN ?_ _ | refine blk_drew ?_ | refine blk_alloc ?_ _)); refine blk_put (cs := #[.int .i64 0, .int .i64 0, .int .i64 0, .int .i64 0, .int .i64 0]) ?_ 0 _ rfl; (with_reducible repeat (first | refine blk_drewN ?_ _ | refine blk_drew ?_ | refine blk_alloc ?_ _)); exact BK329.out⟩, ⟨by repeat (first | (with_reducible first | exact HB.out | apply below_alloc | apply pw_below_drewN | apply below_drew1 | refine below_set ?_ GE322.out | refine below_set ?_ GE329.out) | exact HB.out)⟩⟩
            · rw [if_neg c47] at H
              have c47b0 : (t326 == a0_16) = false := beq_eq_false_iff_ne.mpr c47
              have c47b1 : (t326 != a0_16) = true := bne_iff_ne.mpr c47
              have H' := Aside0.mk H
              clear H
              have hnb87 := NB329_322.out
              have hnc87 := NB322_329.out
              have hcz88_0 : w8.cell? ⟨gb329, 0, none⟩ = some (.int .i64 0) := (blk_cell BK329.out 0).trans rfl
              have hcz88_1 : w8.cell? ⟨gb329, 1, none⟩ = some (.int .i64 0) := (blk_cell BK329.out 1).trans rfl
              have hcz88_2 : w8.cell? ⟨gb329, 2, none⟩ = some (.int .i64 0) := (blk_cell BK329.out 2).trans rfl
              have hcz88_3 : w8.cell? ⟨gb329, 3, none⟩ = some (.int .i64 0) := (blk_cell BK329.out 3).trans rfl
              have hcz88_4 : w8.cell? ⟨gb329, 4, none⟩ = some (.int .i64 0) := (blk_cell BK329.out 4).trans rfl
              have hfz88_0 := blk_frozen BK329.out 0
              have hfz88_1 := blk_frozen BK329.out 1
              have hfz88_2 := blk_frozen BK329.out 2
              have hfz88_3 := blk_frozen BK329.out 3
              have hfz88_4 := blk_frozen BK329.out 4
              have hcz89_0 : w8.cell? ⟨gb322, 0, none⟩ = some (.bool a0_0) := (blk_cell BK322.out 0).trans rfl
              have hcz89_1 : w8.cell? ⟨gb322, 1, none⟩ = some (.bool a0_1) := (blk_cell BK322.out 1).trans rfl
              have hcz89_2 : w8.cell? ⟨gb322, 2, none⟩ = some (.int .i64 a0_2) := (blk_cell BK322.out 2).trans rfl
              have hcz89_3 : w8.cell? ⟨gb322, 3, none⟩ = some (.bool a0_3) := (blk_cell BK322.out 3).trans rfl
              have hcz89_4 : w8.cell? ⟨gb322, 4, none⟩ = some (.bool a0_4) := (blk_cell BK322.out 4).trans rfl
              have hcz89_5 : w8.cell? ⟨gb322, 5, none⟩ = some (.bool a0_5) := (blk_cell BK322.out 5).trans rfl
              have hcz89_6 : w8.cell? ⟨gb322, 6, none⟩ = some (.bool a0_6) := (blk_cell BK322.out 6).trans rfl
              have hcz89_7 : w8.cell? ⟨gb322, 7, none⟩ = some (.int .i64 a0_7) := (blk_cell BK322.out 7).trans rfl
              have hcz89_8 : w8.cell? ⟨gb322, 8, none⟩ = some (.bool a0_8) := (blk_cell BK322.out 8).trans rfl
              have hcz89_9 : w8.cell? ⟨gb322, 9, none⟩ = some (.bool a0_9) := (blk_cell BK322.out 9).trans rfl
              have hcz89_10 : w8.cell? ⟨gb322, 10, none⟩ = some (.bool a0_10) := (blk_cell BK322.out 10).trans rfl
              have hcz89_11 : w8.cell? ⟨gb322, 11, none⟩ = some (.bool a0_11) := (blk_cell BK322.out 11).trans rfl
              have hcz89_12 : w8.cell? ⟨gb322, 12, none⟩ = some (.bool a0_12) := (blk_cell BK322.out 12).trans rfl
              have hcz89_13 : w8.cell? ⟨gb322, 13, none⟩ = some (.bool a0_13) := (blk_cell BK322.out 13).trans rfl
              have hcz89_14 : w8.cell? ⟨gb322, 14, none⟩ = some (.bool a0_14) := (blk_cell BK322.out 14).trans rfl
              have hcz89_15 : w8.cell? ⟨gb322, 15, none⟩ = some (.bool a0_15) := (blk_cell BK322.out 15).trans rfl
              have hcz89_16 : w8.cell? ⟨gb322, 16, none⟩ = some (.int .i64 a0_16) := (blk_cell BK322.out 16).trans rfl
              have hfz89_0 := blk_frozen BK322.out 0
              have hfz89_1 := blk_frozen BK322.out 1
              have hfz89_2 := blk_frozen BK322.out 2
              have hfz89_3 := blk_frozen BK322.out 3
              have hfz89_4 := blk_frozen BK322.out 4
              have hfz89_5 := blk_frozen BK322.out 5
              have hfz89_6 := blk_frozen BK322.out 6
              have hfz89_7 := blk_frozen BK322.out 7
              have hfz89_8 := blk_frozen BK322.out 8
              have hfz89_9 := blk_frozen BK322.out 9
              have hfz89_10 := blk_frozen BK322.out 10
              have hfz89_11 := blk_frozen BK322.out 11
              have hfz89_12 := blk_frozen BK322.out 12
              have hfz89_13 := blk_frozen BK322.out 13
              have hfz89_14 := blk_frozen BK322.out 14
              have hfz89_15 := blk_frozen BK322.out 15
              have hfz89_16 := blk_frozen BK322.out 16
              go_wp2
              go_meet
              case rel => exact ⟨_, (true), (by first | rfl | (simp; done) | (simp [*]; done)), H', ⟨by first | omega | exact Nat.le_refl _⟩, ⟨by (with_reducible repeat (first | refine blk_drewN ?_ _ | refine blk_drew ?_ | refine blk_alloc ?_ _)); refine blk_far ?_ NB322_329.out _; (with_reducible repeat (first | refine blk_drewN ?_ _ | refine blk_drew ?_ | refine blk_alloc ?_ _)); refine blk_far ?_ NB322_329.out _; (with_reducible repeat (first | refine blk_drewN ?_ _ | refine blk_drew ?_ | refine blk_alloc ?_ _)); refine blk_far ?_ NB322_329.out _; (with_reducible repeat (first | refine blk_drewN ?_ _ | refine blk_drew ?_ | refine blk_alloc ?_ _)); refine blk_far ?_ NB322_329.out _; (with_reducible repeat (first | refine blk_drewN ?_ _ | refine blk_drew ?_ | refine blk_alloc ?_ _)); refine blk_far ?_ NB322_329.out _; (with_reducible repeat (first | refine blk_drewN ?_ _ | refine blk_drew ?_ | refine blk_alloc ?_ _)); exact BK322.out⟩, ⟨by (with_reducible repeat (first | refine blk_drewN ?_ _ | refine blk_drew ?_ | refine blk_alloc ?_ _)); refine blk_put (cs := #[.int .i64 t323, .int .i64 t324, .int .i64 t325, .int .i64 t326, .int .i64 0]) ?_ 4 _ rfl; (with_reducible repeat (first | refine blk_drewN ?_ _ | refine blk_drew ?_ | refine blk_alloc ?_ _)); refine blk_put (cs := #[.int .i64 t323, .int .i64 t324, .int .i64 t325, .int .i64 0, .int .i64 0]) ?_ 3 _ rfl; (with_reducible repeat (first | refine blk_drewN ?_ _ | refine blk_drew ?_ | refine blk_alloc ?_ _)); refine blk_put (cs := #[.int .i64 t323, .int .i64 t324, .int .i64 0, .int .i64 0, .int .i64 0]) ?_ 2 _ rfl; (with_reducible repeat (first | refine blk_drewN ?_ _ | refine blk_drew ?_ | refine blk_alloc ?_ _)); refine blk_put (cs := #[.int .i64 t323, .int .i64 0, .int .i64 0, .int .i64 0, .int .i64 0]) ?_ 1 _ rfl; (with_reducible repeat (first | refine blk_drewN ?_ _ | refine blk_drew ?_ | refine blk_alloc ?_ _)); refine blk_put (cs := #[.int .i64 0, .int .i64 0, .int .i64 0, .int .i64 0, .int .i64 0]) ?_ 0 _ rfl; (with_reducible repeat (first | refine blk_drewN ?_ _ | refine blk_drew ?_ | refine blk_alloc ?_ _)); exact BK329.out⟩, ⟨by repeat (first | (with_reducible first | exact HB.out | apply below_alloc | apply pw_below_drewN | apply below_drew1 | refine below_set ?_ GE322.out | refine below_set ?_ GE329.out) | exact HB.out)⟩⟩
    case rest =>
      clear HC4
      try clear p2
      try clear c4
      try clear c5
      try clear c6
      try clear c7
      try clear c8
      try clear c47
      try clear c47b0
      try clear c47b1
      try clear c48
      try clear c48b0
      try clear c48b1
      try clear c49
      try clear c49b0
      try clear c49b1
      try clear c53
      try clear c53b0
      try clear c53b1
      try clear c54
      try clear c54b0
      try clear c54b1
      try clear c55
      try clear c58
      try clear c61
      try clear c61b0
      try clear c61b1
      try clear c62
      try clear c65
      try clear c68
      try clear c68b0
      try clear c68b1
      try clear c69
      try clear c69b0
      try clear c69b1
      try clear c70
      try clear c70b0
      try clear c70b1
      try clear c71
      try clear c74
      try clear c77
      try clear c77b0
      try clear c77b1
      try clear c78
      try clear c81
      try clear c84
      try clear c87
      try clear hcz52_14
      try clear hcz52_15
      try clear hcz52_16
      try clear hcz56_0
      try clear hcz56_1
      try clear hcz56_2
      try clear hcz56_3
      try clear hcz56_4
      try clear hcz57_0
      try clear hcz57_1
      try clear hcz57_10
      try clear hcz57_11
      try clear hcz57_12
      try clear hcz57_13
      try clear hcz57_14
      try clear hcz57_15
      try clear hcz57_16
      try clear hcz57_2
      try clear hcz57_3
      try clear hcz57_4
      try clear hcz57_5
      try clear hcz57_6
      try clear hcz57_7
      try clear hcz57_8
      try clear hcz57_9
      try clear hcz59_0
      try clear hcz59_1
      try clear hcz59_2
      try clear hcz59_3
      try clear hcz59_4
      try clear hcz60_0
      try clear hcz60_1
      try clear hcz60_10
      try clear hcz60_11
      try clear hcz60_12
      try clear hcz60_13
      try clear hcz60_14
      try clear hcz60_15
      try clear hcz60_16
      try clear hcz60_2
      try clear hcz60_3
      try clear hcz60_4
      try clear hcz60_5
      try clear hcz60_6
      try clear hcz60_7
      try clear hcz60_8
      try clear hcz60_9
      try clear hcz63_0
      try clear hcz63_1
      try clear hcz63_2
      try clear hcz63_3
      try clear hcz63_4
      try clear hcz64_0
      try clear hcz64_1
      try clear hcz64_10
      try clear hcz64_11
      try clear hcz64_12
      try clear hcz64_13
      try clear hcz64_14
      try clear hcz64_15
      try clear hcz64_16
      try clear hcz64_2
      try clear hcz64_3
      try clear hcz64_4
      try clear hcz64_5
      try clear hcz64_6
      try clear hcz64_7
      try clear hcz64_8
      try clear hcz64_9
      try clear hcz66_0
      try clear hcz66_1
      try clear hcz66_2
      try clear hcz66_3
      try clear hcz66_4
      try clear hcz67_0
      try clear hcz67_1
      try clear hcz67_10
      try clear hcz67_11
      try clear hcz67_12
      try clear hcz67_13
      try clear hcz67_14
      try clear hcz67_15
      try clear hcz67_16
      try clear hcz67_2
      try clear hcz67_3
      try clear hcz67_4
      try clear hcz67_5
      try clear hcz67_6
      try clear hcz67_7
      try clear hcz67_8
      try clear hcz67_9
      try clear hcz72_0
      try clear hcz72_1
      try clear hcz72_2
      try clear hcz72_3
      try clear hcz72_4
      try clear hcz73_0
      try clear hcz73_1
      try clear hcz73_10
      try clear hcz73_11
      try clear hcz73_12
      try clear hcz73_13
      try clear hcz73_14
      try clear hcz73_15
      try clear hcz73_16
      try clear hcz73_2
      try clear hcz73_3
      try clear hcz73_4
      try clear hcz73_5
      try clear hcz73_6
      try clear hcz73_7
      try clear hcz73_8
      try clear hcz73_9
      try clear hcz75_0
      try clear hcz75_1
      try clear hcz75_2
      try clear hcz75_3
      try clear hcz75_4
      try clear hcz76_0
      try clear hcz76_1
      try clear hcz76_10
      try clear hcz76_11
      try clear hcz76_12
      try clear hcz76_13
      try clear hcz76_14
      try clear hcz76_15
      try clear hcz76_16
      try clear hcz76_2
      try clear hcz76_3
      try clear hcz76_4
      try clear hcz76_5
      try clear hcz76_6
      try clear hcz76_7
      try clear hcz76_8
      try clear hcz76_9
      try clear hcz79_0
      try clear hcz79_1
      try clear hcz79_2
      try clear hcz79_3
      try clear hcz79_4
      try clear hcz80_0
      try clear hcz80_1
      try clear hcz80_10
      try clear hcz80_11
      try clear hcz80_12
      try clear hcz80_13
      try clear hcz80_14
      try clear hcz80_15
      try clear hcz80_16
      try clear hcz80_2
      try clear hcz80_3
      try clear hcz80_4
      try clear hcz80_5
      try clear hcz80_6
      try clear hcz80_7
      try clear hcz80_8
      try clear hcz80_9
      try clear hcz82_0
      try clear hcz82_1
      try clear hcz82_2
      try clear hcz82_3
      try clear hcz82_4
      try clear hcz83_0
      try clear hcz83_1
      try clear hcz83_10
      try clear hcz83_11
      try clear hcz83_12
      try clear hcz83_13
      try clear hcz83_14
      try clear hcz83_15
      try clear hcz83_16
      try clear hcz83_2
      try clear hcz83_3
      try clear hcz83_4
      try clear hcz83_5
      try clear hcz83_6
      try clear hcz83_7
      try clear hcz83_8
      try clear hcz83_9
      try clear hcz85_0
      try clear hcz85_1
      try clear hcz85_2
      try clear hcz85_3
      try clear hcz85_4
      try clear hcz86_0
      try clear hcz86_1
      try clear hcz86_10
      try clear hcz86_11
      try clear hcz86_12
      try clear hcz86_13
      try clear hcz86_14
      try clear hcz86_15
      try clear hcz86_16
      try clear hcz86_2
      try clear hcz86_3
      try clear hcz86_4
      try clear hcz86_5
      try clear hcz86_6
      try clear hcz86_7
      try clear hcz86_8
      try clear hcz86_9
      try clear hcz88_0
      try clear hcz88_1
      try clear hcz88_2
      try clear hcz88_3
      try clear hcz88_4
      try clear hcz89_0
      try clear hcz89_1
      try clear hcz89_10
      try clear hcz89_11
      try clear hcz89_12
      try clear hcz89_13
      try clear hcz89_14
      try clear hcz89_15
      try clear hcz89_16
      try clear hcz89_2
      try clear hcz89_3
      try clear hcz89_4
      try clear hcz89_5
      try clear hcz89_6
      try clear hcz89_7
      try clear hcz89_8
      try clear hcz89_9
      try clear hfz52_0
      try clear hfz52_1
      try clear hfz52_10
      try clear hfz52_11
      try clear hfz52_12
      try clear hfz52_13
      try clear hfz52_14
      try clear hfz52_15
      try clear hfz52_16
      try clear hfz52_2
      try clear hfz52_3
      try clear hfz52_4
      try clear hfz52_5
      try clear hfz52_6
      try clear hfz52_7
      try clear hfz52_8
      try clear hfz52_9
      try clear hfz56_0
      try clear hfz56_1
      try clear hfz56_2
      try clear hfz56_3
      try clear hfz56_4
      try clear hfz57_0
      try clear hfz57_1
      try clear hfz57_10
      try clear hfz57_11
      try clear hfz57_12
      try clear hfz57_13
      try clear hfz57_14
      try clear hfz57_15
      try clear hfz57_16
      try clear hfz57_2
      try clear hfz57_3
      try clear hfz57_4
      try clear hfz57_5
      try clear hfz57_6
      try clear hfz57_7
      try clear hfz57_8
      try clear hfz57_9
      try clear hfz59_0
      try clear hfz59_1
      try clear hfz59_2
      try clear hfz59_3
      try clear hfz59_4
      try clear hfz60_0
      try clear hfz60_1
      try clear hfz60_10
      try clear hfz60_11
      try clear hfz60_12
      try clear hfz60_13
      try clear hfz60_14
      try clear hfz60_15
      try clear hfz60_16
      try clear hfz60_2
      try clear hfz60_3
      try clear hfz60_4
      try clear hfz60_5
      try clear hfz60_6
      try clear hfz60_7
      try clear hfz60_8
      try clear hfz60_9
      try clear hfz63_0
      try clear hfz63_1
      try clear hfz63_2
      try clear hfz63_3
      try clear hfz63_4
      try clear hfz64_0
      try clear hfz64_1
      try clear hfz64_10
      try clear hfz64_11
      try clear hfz64_12
      try clear hfz64_13
      try clear hfz64_14
      try clear hfz64_15
      try clear hfz64_16
      try clear hfz64_2
      try clear hfz64_3
      try clear hfz64_4
      try clear hfz64_5
      try clear hfz64_6
      try clear hfz64_7
      try clear hfz64_8
      try clear hfz64_9
      try clear hfz66_0
      try clear hfz66_1
      try clear hfz66_2
      try clear hfz66_3
      try clear hfz66_4
      try clear hfz67_0
      try clear hfz67_1
      try clear hfz67_10
      try clear hfz67_11
      try clear hfz67_12
      try clear hfz67_13
      try clear hfz67_14
      try clear hfz67_15
      try clear hfz67_16
      try clear hfz67_2
      try clear hfz67_3
      try clear hfz67_4
      try clear hfz67_5
      try clear hfz67_6
      try clear hfz67_7
      try clear hfz67_8
      try clear hfz67_9
      try clear hfz72_0
      try clear hfz72_1
      try clear hfz72_2
      try clear hfz72_3
      try clear hfz72_4
      try clear hfz73_0
      try clear hfz73_1
      try clear hfz73_10
      try clear hfz73_11
      try clear hfz73_12
      try clear hfz73_13
      try clear hfz73_14
      try clear hfz73_15
      try clear hfz73_16
      try clear hfz73_2
      try clear hfz73_3
      try clear hfz73_4
      try clear hfz73_5
      try clear hfz73_6
      try clear hfz73_7
      try clear hfz73_8
      try clear hfz73_9
      try clear hfz75_0
      try clear hfz75_1
      try clear hfz75_2
      try clear hfz75_3
      try clear hfz75_4
      try clear hfz76_0
      try clear hfz76_1
      try clear hfz76_10
      try clear hfz76_11
      try clear hfz76_12
      try clear hfz76_13
      try clear hfz76_14
      try clear hfz76_15
      try clear hfz76_16
      try clear hfz76_2
      try clear hfz76_3
      try clear hfz76_4
      try clear hfz76_5
      try clear hfz76_6
      try clear hfz76_7
      try clear hfz76_8
      try clear hfz76_9
      try clear hfz79_0
      try clear hfz79_1
      try clear hfz79_2
      try clear hfz79_3
      try clear hfz79_4
      try clear hfz80_0
      try clear hfz80_1
      try clear hfz80_10
      try clear hfz80_11
      try clear hfz80_12
      try clear hfz80_13
      try clear hfz80_14
      try clear hfz80_15
      try clear hfz80_16
      try clear hfz80_2
      try clear hfz80_3
      try clear hfz80_4
      try clear hfz80_5
      try clear hfz80_6
      try clear hfz80_7
      try clear hfz80_8
      try clear hfz80_9
      try clear hfz82_0
      try clear hfz82_1
      try clear hfz82_2
      try clear hfz82_3
      try clear hfz82_4
      try clear hfz83_0
      try clear hfz83_1
      try clear hfz83_10
      try clear hfz83_11
      try clear hfz83_12
      try clear hfz83_13
      try clear hfz83_14
      try clear hfz83_15
      try clear hfz83_16
      try clear hfz83_2
      try clear hfz83_3
      try clear hfz83_4
      try clear hfz83_5
      try clear hfz83_6
      try clear hfz83_7
      try clear hfz83_8
      try clear hfz83_9
      try clear hfz85_0
      try clear hfz85_1
      try clear hfz85_2
      try clear hfz85_3
      try clear hfz85_4
      try clear hfz86_0
      try clear hfz86_1
      try clear hfz86_10
      try clear hfz86_11
      try clear hfz86_12
      try clear hfz86_13
      try clear hfz86_14
      try clear hfz86_15
      try clear hfz86_16
      try clear hfz86_2
      try clear hfz86_3
      try clear hfz86_4
      try clear hfz86_5
      try clear hfz86_6
      try clear hfz86_7
      try clear hfz86_8
      try clear hfz86_9
      try clear hfz88_0
      try clear hfz88_1
      try clear hfz88_2
      try clear hfz88_3
      try clear hfz88_4
      try clear hfz89_0
      try clear hfz89_1
      try clear hfz89_10
      try clear hfz89_11
      try clear hfz89_12
      try clear hfz89_13
      try clear hfz89_14
      try clear hfz89_15
      try clear hfz89_16
      try clear hfz89_2
      try clear hfz89_3
      try clear hfz89_4
      try clear hfz89_5
      try clear hfz89_6
      try clear hfz89_7
      try clear hfz89_8
      try clear hfz89_9
      obtain ⟨kq, x55_3, rfl, HA, HJ3, BK322, BK329, HB⟩ := hcut
      cases kq with
      | zero => exact absurd HA.out (by simp [estoverslaw26_FaultplanNeeds.j0])
      | succ kj3 =>
        have H := HA.out
        clear HA
        simp only [estoverslaw26_FaultplanNeeds.j0] at H
        by_cases c90 : x55_3 = true
        · subst c90
          have H1 : (some false) = some r := by rw [if_pos rfl] at H; exact H
          clear H
          have H := H1
          clear H1
          obtain rfl := Option.some.inj H
          go_wp2
          go_ret
          exact ⟨by first | rfl | (simp [errW_none, errW_some] <;> rfl) | (simp [*, errW_none, errW_some] <;> rfl), by repeat (first | (with_reducible first | exact HB.out | apply below_alloc | apply pw_below_drewN | apply below_drew1 | refine below_set ?_ GE322.out | refine below_set ?_ GE329.out) | exact HB.out)⟩
        · replace c90 := Bool.eq_false_iff.mpr c90
          subst c90
          have H1 : (if t323 = 0 then (estoverslaw26_FaultplanNeeds.j1 kj3 true t323 t324 t325 t326 t327) else (if t323 = 1 then (estoverslaw26_FaultplanNeeds.j1 kj3 true t323 t324 t325 t326 t327) else (estoverslaw26_FaultplanNeeds.j1 kj3 (t323 == 2) t323 t324 t325 t326 t327))) = some r := by rw [if_neg (show ¬ (false = true) by decide)] at H; exact H
          clear H
          have H := H1
          clear H1
          have HC91 := Aside0.mk H
          clear H
          go_upto_region 6 with (fail)
          go_cut [68] (fun v68 wc => ∃ (kq : Nat) (x68_90 : Bool), v68 = .bool x68_90 ∧ Aside0 (estoverslaw26_FaultplanNeeds.j1 kq x68_90 t323 t324 t325 t326 t327 = some r) ∧ Aside0 (kq ≤ kj3) ∧ Aside0 (wc.heap[gb322]? = some (.cells #[.bool a0_0, .bool a0_1, .int .i64 a0_2, .bool a0_3, .bool a0_4, .bool a0_5, .bool a0_6, .int .i64 a0_7, .bool a0_8, .bool a0_9, .bool a0_10, .bool a0_11, .bool a0_12, .bool a0_13, .bool a0_14, .bool a0_15, .int .i64 a0_16] 23 (0, 0))) ∧ Aside0 (wc.heap[gb329]? = some (.cells #[.int .i64 t323, .int .i64 t324, .int .i64 t325, .int .i64 t326, .int .i64 t327] 28 (0, 0))) ∧ Aside0 (Below w.heap.size w wc))
          case first =>
            have H := HC91.out
            clear HC91
            by_cases c92 : t323 = 0
            · rw [if_pos c92] at H
              have c92b0 : (t323 == 0) = true := beq_iff_eq.mpr c92
              have c92b1 : (t323 != 0) = false := bne_eq_false_iff_eq.mpr c92
              clear c92
              (first | rw [c92b0] | (simp only [i64_w, i32_w]; rw [c92b0]) | skip)
              have H' := Aside0.mk H
              clear H
              have hnb93 := NB329_322.out
              have hnc93 := NB322_329.out
              have hcz94_0 : wc.cell? ⟨gb329, 0, none⟩ = some (.int .i64 t323) := (blk_cell BK329.out 0).trans rfl
              have hcz94_1 : wc.cell? ⟨gb329, 1, none⟩ = some (.int .i64 t324) := (blk_cell BK329.out 1).trans rfl
              have hcz94_2 : wc.cell? ⟨gb329, 2, none⟩ = some (.int .i64 t325) := (blk_cell BK329.out 2).trans rfl
              have hcz94_3 : wc.cell? ⟨gb329, 3, none⟩ = some (.int .i64 t326) := (blk_cell BK329.out 3).trans rfl
              have hcz94_4 : wc.cell? ⟨gb329, 4, none⟩ = some (.int .i64 t327) := (blk_cell BK329.out 4).trans rfl
              have hfz94_0 := blk_frozen BK329.out 0
              have hfz94_1 := blk_frozen BK329.out 1
              have hfz94_2 := blk_frozen BK329.out 2
              have hfz94_3 := blk_frozen BK329.out 3
              have hfz94_4 := blk_frozen BK329.out 4
              go_wp2
              go_meet
              case rel => exact ⟨_, (true), (by first | rfl | (simp; done) | (simp [*]; done)), H', ⟨by have := HJ3.out; first | omega | exact Nat.le_refl _⟩, ⟨by (with_reducible repeat (first | refine blk_drewN ?_ _ | refine blk_drew ?_ | refine blk_alloc ?_ _)); exact BK322.out⟩, ⟨by (with_reducible repeat (first | refine blk_drewN ?_ _ | refine blk_drew ?_ | refine blk_alloc ?_ _)); exact BK329.out⟩, ⟨by repeat (first | (with_reducible first | exact HB.out | apply below_alloc | apply pw_below_drewN | apply below_drew1 | refine below_set ?_ GE322.out | refine below_set ?_ GE329.out) | exact HB.out)⟩⟩
            · rw [if_neg c92] at H
              have c92b0 : (t323 == 0) = false := beq_eq_false_iff_ne.mpr c92
              have c92b1 : (t323 != 0) = true := bne_iff_ne.mpr c92
              (first | rw [c92b0] | (simp only [i64_w, i32_w]; rw [c92b0]) | skip)
              by_cases c95 : t323 = 1
              · rw [if_pos c95] at H
                have c95b0 : (t323 == 1) = true := beq_iff_eq.mpr c95
                have c95b1 : (t323 != 1) = false := bne_eq_false_iff_eq.mpr c95
                clear c95
                have H' := Aside0.mk H
                clear H
                have hnb96 := NB329_322.out
                have hnc96 := NB322_329.out
                have hcz97_0 : wc.cell? ⟨gb329, 0, none⟩ = some (.int .i64 t323) := (blk_cell BK329.out 0).trans rfl
                have hcz97_1 : wc.cell? ⟨gb329, 1, none⟩ = some (.int .i64 t324) := (blk_cell BK329.out 1).trans rfl
                have hcz97_2 : wc.cell? ⟨gb329, 2, none⟩ = some (.int .i64 t325) := (blk_cell BK329.out 2).trans rfl
                have hcz97_3 : wc.cell? ⟨gb329, 3, none⟩ = some (.int .i64 t326) := (blk_cell BK329.out 3).trans rfl
                have hcz97_4 : wc.cell? ⟨gb329, 4, none⟩ = some (.int .i64 t327) := (blk_cell BK329.out 4).trans rfl
                have hfz97_0 := blk_frozen BK329.out 0
                have hfz97_1 := blk_frozen BK329.out 1
                have hfz97_2 := blk_frozen BK329.out 2
                have hfz97_3 := blk_frozen BK329.out 3
                have hfz97_4 := blk_frozen BK329.out 4
                go_wp2
                go_meet
                case rel => exact ⟨_, (true), (by first | rfl | (simp; done) | (simp [*]; done)), H', ⟨by have := HJ3.out; first | omega | exact Nat.le_refl _⟩, ⟨by (with_reducible repeat (first | refine blk_drewN ?_ _ | refine blk_drew ?_ | refine blk_alloc ?_ _)); exact BK322.out⟩, ⟨by (with_reducible repeat (first | refine blk_drewN ?_ _ | refine blk_drew ?_ | refine blk_alloc ?_ _)); exact BK329.out⟩, ⟨by repeat (first | (with_reducible first | exact HB.out | apply below_alloc | apply pw_below_drewN | apply below_drew1 | refine below_set ?_ GE322.out | refine below_set ?_ GE329.out) | exact HB.out)⟩⟩
              · rw [if_neg c95] at H
                have c95b0 : (t323 == 1) = false := beq_eq_false_iff_ne.mpr c95
                have c95b1 : (t323 != 1) = true := bne_iff_ne.mpr c95
                have H' := Aside0.mk H
                clear H
                have hnb98 := NB329_322.out
                have hnc98 := NB322_329.out
                have hcz99_0 : wc.cell? ⟨gb329, 0, none⟩ = some (.int .i64 t323) := (blk_cell BK329.out 0).trans rfl
                have hcz99_1 : wc.cell? ⟨gb329, 1, none⟩ = some (.int .i64 t324) := (blk_cell BK329.out 1).trans rfl
                have hcz99_2 : wc.cell? ⟨gb329, 2, none⟩ = some (.int .i64 t325) := (blk_cell BK329.out 2).trans rfl
                have hcz99_3 : wc.cell? ⟨gb329, 3, none⟩ = some (.int .i64 t326) := (blk_cell BK329.out 3).trans rfl
                have hcz99_4 : wc.cell? ⟨gb329, 4, none⟩ = some (.int .i64 t327) := (blk_cell BK329.out 4).trans rfl
                have hfz99_0 := blk_frozen BK329.out 0
                have hfz99_1 := blk_frozen BK329.out 1
                have hfz99_2 := blk_frozen BK329.out 2
                have hfz99_3 := blk_frozen BK329.out 3
                have hfz99_4 := blk_frozen BK329.out 4
                go_wp2
                go_meet
                case rel => exact ⟨_, ((t323 == 2)), (by first | rfl | (simp; done) | (simp [*]; done)), H', ⟨by have := HJ3.out; first | omega | exact Nat.le_refl _⟩, ⟨by (with_reducible repeat (first | refine blk_drewN ?_ _ | refine blk_drew ?_ | refine blk_alloc ?_ _)); exact BK322.out⟩, ⟨by (with_reducible repeat (first | refine blk_drewN ?_ _ | refine blk_drew ?_ | refine blk_alloc ?_ _)); exact BK329.out⟩, ⟨by repeat (first | (with_reducible first | exact HB.out | apply below_alloc | apply pw_below_drewN | apply below_drew1 | refine below_set ?_ GE322.out | refine below_set ?_ GE329.out) | exact HB.out)⟩⟩
          case rest =>
            clear HC91
            try clear p2
            try clear c4
            try clear c5
            try clear c6
            try clear c7
            try clear c8
            try clear c9
            try clear c47
            try clear c47b0
            try clear c47b1
            try clear c48
            try clear c48b0
            try clear c48b1
            try clear c49
            try clear c49b0
            try clear c49b1
            try clear c53
            try clear c53b0
            try clear c53b1
            try clear c54
            try clear c54b0
            try clear c54b1
            try clear c55
            try clear c58
            try clear c61
            try clear c61b0
            try clear c61b1
            try clear c62
            try clear c65
            try clear c68
            try clear c68b0
            try clear c68b1
            try clear c69
            try clear c69b0
            try clear c69b1
            try clear c70
            try clear c70b0
            try clear c70b1
            try clear c71
            try clear c74
            try clear c77
            try clear c77b0
            try clear c77b1
            try clear c78
            try clear c81
            try clear c84
            try clear c87
            try clear c90
            try clear c92
            try clear c92b0
            try clear c92b1
            try clear c93
            try clear c95
            try clear c95b0
            try clear c95b1
            try clear c96
            try clear c98
            try clear hcz52_14
            try clear hcz52_15
            try clear hcz52_16
            try clear hcz56_0
            try clear hcz56_1
            try clear hcz56_2
            try clear hcz56_3
            try clear hcz56_4
            try clear hcz57_0
            try clear hcz57_1
            try clear hcz57_10
            try clear hcz57_11
            try clear hcz57_12
            try clear hcz57_13
            try clear hcz57_14
            try clear hcz57_15
            try clear hcz57_16
            try clear hcz57_2
            try clear hcz57_3
            try clear hcz57_4
            try clear hcz57_5
            try clear hcz57_6
            try clear hcz57_7
            try clear hcz57_8
            try clear hcz57_9
            try clear hcz59_0
            try clear hcz59_1
            try clear hcz59_2
            try clear hcz59_3
            try clear hcz59_4
            try clear hcz60_0
            try clear hcz60_1
            try clear hcz60_10
            try clear hcz60_11
            try clear hcz60_12
            try clear hcz60_13
            try clear hcz60_14
            try clear hcz60_15
            try clear hcz60_16
            try clear hcz60_2
            try clear hcz60_3
            try clear hcz60_4
            try clear hcz60_5
            try clear hcz60_6
            try clear hcz60_7
            try clear hcz60_8
            try clear hcz60_9
            try clear hcz63_0
            try clear hcz63_1
            try clear hcz63_2
            try clear hcz63_3
            try clear hcz63_4
            try clear hcz64_0
            try clear hcz64_1
            try clear hcz64_10
            try clear hcz64_11
            try clear hcz64_12
            try clear hcz64_13
            try clear hcz64_14
            try clear hcz64_15
            try clear hcz64_16
            try clear hcz64_2
            try clear hcz64_3
            try clear hcz64_4
            try clear hcz64_5
            try clear hcz64_6
            try clear hcz64_7
            try clear hcz64_8
            try clear hcz64_9
            try clear hcz66_0
            try clear hcz66_1
            try clear hcz66_2
            try clear hcz66_3
            try clear hcz66_4
            try clear hcz67_0
            try clear hcz67_1
            try clear hcz67_10
            try clear hcz67_11
            try clear hcz67_12
            try clear hcz67_13
            try clear hcz67_14
            try clear hcz67_15
            try clear hcz67_16
            try clear hcz67_2
            try clear hcz67_3
            try clear hcz67_4
            try clear hcz67_5
            try clear hcz67_6
            try clear hcz67_7
            try clear hcz67_8
            try clear hcz67_9
            try clear hcz72_0
            try clear hcz72_1
            try clear hcz72_2
            try clear hcz72_3
            try clear hcz72_4
            try clear hcz73_0
            try clear hcz73_1
            try clear hcz73_10
            try clear hcz73_11
            try clear hcz73_12
            try clear hcz73_13
            try clear hcz73_14
            try clear hcz73_15
            try clear hcz73_16
            try clear hcz73_2
            try clear hcz73_3
            try clear hcz73_4
            try clear hcz73_5
            try clear hcz73_6
            try clear hcz73_7
            try clear hcz73_8
            try clear hcz73_9
            try clear hcz75_0
            try clear hcz75_1
            try clear hcz75_2
            try clear hcz75_3
            try clear hcz75_4
            try clear hcz76_0
            try clear hcz76_1
            try clear hcz76_10
            try clear hcz76_11
            try clear hcz76_12
            try clear hcz76_13
            try clear hcz76_14
            try clear hcz76_15
            try clear hcz76_16
            try clear hcz76_2
            try clear hcz76_3
            try clear hcz76_4
            try clear hcz76_5
            try clear hcz76_6
            try clear hcz76_7
            try clear hcz76_8
            try clear hcz76_9
            try clear hcz79_0
            try clear hcz79_1
            try clear hcz79_2
            try clear hcz79_3
            try clear hcz79_4
            try clear hcz80_0
            try clear hcz80_1
            try clear hcz80_10
            try clear hcz80_11
            try clear hcz80_12
            try clear hcz80_13
            try clear hcz80_14
            try clear hcz80_15
            try clear hcz80_16
            try clear hcz80_2
            try clear hcz80_3
            try clear hcz80_4
            try clear hcz80_5
            try clear hcz80_6
            try clear hcz80_7
            try clear hcz80_8
            try clear hcz80_9
            try clear hcz82_0
            try clear hcz82_1
            try clear hcz82_2
            try clear hcz82_3
            try clear hcz82_4
            try clear hcz83_0
            try clear hcz83_1
            try clear hcz83_10
            try clear hcz83_11
            try clear hcz83_12
            try clear hcz83_13
            try clear hcz83_14
            try clear hcz83_15
            try clear hcz83_16
            try clear hcz83_2
            try clear hcz83_3
            try clear hcz83_4
            try clear hcz83_5
            try clear hcz83_6
            try clear hcz83_7
            try clear hcz83_8
            try clear hcz83_9
            try clear hcz85_0
            try clear hcz85_1
            try clear hcz85_2
            try clear hcz85_3
            try clear hcz85_4
            try clear hcz86_0
            try clear hcz86_1
            try clear hcz86_10
            try clear hcz86_11
            try clear hcz86_12
            try clear hcz86_13
            try clear hcz86_14
            try clear hcz86_15
            try clear hcz86_16
            try clear hcz86_2
            try clear hcz86_3
            try clear hcz86_4
            try clear hcz86_5
            try clear hcz86_6
            try clear hcz86_7
            try clear hcz86_8
            try clear hcz86_9
            try clear hcz88_0
            try clear hcz88_1
            try clear hcz88_2
            try clear hcz88_3
            try clear hcz88_4
            try clear hcz89_0
            try clear hcz89_1
            try clear hcz89_10
            try clear hcz89_11
            try clear hcz89_12
            try clear hcz89_13
            try clear hcz89_14
            try clear hcz89_15
            try clear hcz89_16
            try clear hcz89_2
            try clear hcz89_3
            try clear hcz89_4
            try clear hcz89_5
            try clear hcz89_6
            try clear hcz89_7
            try clear hcz89_8
            try clear hcz89_9
            try clear hcz94_0
            try clear hcz94_1
            try clear hcz94_2
            try clear hcz94_3
            try clear hcz94_4
            try clear hcz97_0
            try clear hcz97_1
            try clear hcz97_2
            try clear hcz97_3
            try clear hcz97_4
            try clear hcz99_0
            try clear hcz99_1
            try clear hcz99_2
            try clear hcz99_3
            try clear hcz99_4
            try clear hfz52_0
            try clear hfz52_1
            try clear hfz52_10
            try clear hfz52_11
            try clear hfz52_12
            try clear hfz52_13
            try clear hfz52_14
            try clear hfz52_15
            try clear hfz52_16
            try clear hfz52_2
            try clear hfz52_3
            try clear hfz52_4
            try clear hfz52_5
            try clear hfz52_6
            try clear hfz52_7
            try clear hfz52_8
            try clear hfz52_9
            try clear hfz56_0
            try clear hfz56_1
            try clear hfz56_2
            try clear hfz56_3
            try clear hfz56_4
            try clear hfz57_0
            try clear hfz57_1
            try clear hfz57_10
            try clear hfz57_11
            try clear hfz57_12
            try clear hfz57_13
            try clear hfz57_14
            try clear hfz57_15
            try clear hfz57_16
            try clear hfz57_2
            try clear hfz57_3
            try clear hfz57_4
            try clear hfz57_5
            try clear hfz57_6
            try clear hfz57_7
            try clear hfz57_8
            try clear hfz57_9
            try clear hfz59_0
            try clear hfz59_1
            try clear hfz59_2
            try clear hfz59_3
            try clear hfz59_4
            try clear hfz60_0
            try clear hfz60_1
            try clear hfz60_10
            try clear hfz60_11
            try clear hfz60_12
            try clear hfz60_13
            try clear hfz60_14
            try clear hfz60_15
            try clear hfz60_16
            try clear hfz60_2
            try clear hfz60_3
            try clear hfz60_4
            try clear hfz60_5
            try clear hfz60_6
            try clear hfz60_7
            try clear hfz60_8
            try clear hfz60_9
            try clear hfz63_0
            try clear hfz63_1
            try clear hfz63_2
            try clear hfz63_3
            try clear hfz63_4
            try clear hfz64_0
            try clear hfz64_1
            try clear hfz64_10
            try clear hfz64_11
            try clear hfz64_12
            try clear hfz64_13
            try clear hfz64_14
            try clear hfz64_15
            try clear hfz64_16
            try clear hfz64_2
            try clear hfz64_3
            try clear hfz64_4
            try clear hfz64_5
            try clear hfz64_6
            try clear hfz64_7
            try clear hfz64_8
            try clear hfz64_9
            try clear hfz66_0
            try clear hfz66_1
            try clear hfz66_2
            try clear hfz66_3
            try clear hfz66_4
            try clear hfz67_0
            try clear hfz67_1
            try clear hfz67_10
            try clear hfz67_11
            try clear hfz67_12
            try clear hfz67_13
            try clear hfz67_14
            try clear hfz67_15
            try clear hfz67_16
            try clear hfz67_2
            try clear hfz67_3
            try clear hfz67_4
            try clear hfz67_5
            try clear hfz67_6
            try clear hfz67_7
            try clear hfz67_8
            try clear hfz67_9
            try clear hfz72_0
            try clear hfz72_1
            try clear hfz72_2
            try clear hfz72_3
            try clear hfz72_4
            try clear hfz73_0
            try clear hfz73_1
            try clear hfz73_10
            try clear hfz73_11
            try clear hfz73_12
            try clear hfz73_13
            try clear hfz73_14
            try clear hfz73_15
            try clear hfz73_16
            try clear hfz73_2
            try clear hfz73_3
            try clear hfz73_4
            try clear hfz73_5
            try clear hfz73_6
            try clear hfz73_7
            try clear hfz73_8
            try clear hfz73_9
            try clear hfz75_0
            try clear hfz75_1
            try clear hfz75_2
            try clear hfz75_3
            try clear hfz75_4
            try clear hfz76_0
            try clear hfz76_1
            try clear hfz76_10
            try clear hfz76_11
            try clear hfz76_12
            try clear hfz76_13
            try clear hfz76_14
            try clear hfz76_15
            try clear hfz76_16
            try clear hfz76_2
            try clear hfz76_3
            try clear hfz76_4
            try clear hfz76_5
            try clear hfz76_6
            try clear hfz76_7
            try clear hfz76_8
            try clear hfz76_9
            try clear hfz79_0
            try clear hfz79_1
            try clear hfz79_2
            try clear hfz79_3
            try clear hfz79_4
            try clear hfz80_0
            try clear hfz80_1
            try clear hfz80_10
            try clear hfz80_11
            try clear hfz80_12
            try clear hfz80_13
            try clear hfz80_14
            try clear hfz80_15
            try clear hfz80_16
            try clear hfz80_2
            try clear hfz80_3
            try clear hfz80_4
            try clear hfz80_5
            try clear hfz80_6
            try clear hfz80_7
            try clear hfz80_8
            try clear hfz80_9
            try clear hfz82_0
            try clear hfz82_1
            try clear hfz82_2
            try clear hfz82_3
            try clear hfz82_4
            try clear hfz83_0
            try clear hfz83_1
            try clear hfz83_10
            try clear hfz83_11
            try clear hfz83_12
            try clear hfz83_13
            try clear hfz83_14
            try clear hfz83_15
            try clear hfz83_16
            try clear hfz83_2
            try clear hfz83_3
            try clear hfz83_4
            try clear hfz83_5
            try clear hfz83_6
            try clear hfz83_7
            try clear hfz83_8
            try clear hfz83_9
            try clear hfz85_0
            try clear hfz85_1
            try clear hfz85_2
            try clear hfz85_3
            try clear hfz85_4
            try clear hfz86_0
            try clear hfz86_1
            try clear hfz86_10
            try clear hfz86_11
            try clear hfz86_12
            try clear hfz86_13
            try clear hfz86_14
            try clear hfz86_15
            try clear hfz86_16
            try clear hfz86_2
            try clear hfz86_3
            try clear hfz86_4
            try clear hfz86_5
            try clear hfz86_6
            try clear hfz86_7
            try clear hfz86_8
            try clear hfz86_9
            try clear hfz88_0
            try clear hfz88_1
            try clear hfz88_2
            try clear hfz88_3
            try clear hfz88_4
            try clear hfz89_0
            try clear hfz89_1
            try clear hfz89_10
            try clear hfz89_11
            try clear hfz89_12
            try clear hfz89_13
            try clear hfz89_14
            try clear hfz89_15
            try clear hfz89_16
            try clear hfz89_2
            try clear hfz89_3
            try clear hfz89_4
            try clear hfz89_5
            try clear hfz89_6
            try clear hfz89_7
            try clear hfz89_8
            try clear hfz89_9
            try clear hfz94_0
            try clear hfz94_1
            try clear hfz94_2
            try clear hfz94_3
            try clear hfz94_4
            try clear hfz97_0
            try clear hfz97_1
            try clear hfz97_2
            try clear hfz97_3
            try clear hfz97_4
            try clear hfz99_0
            try clear hfz99_1
            try clear hfz99_2
            try clear hfz99_3
            try clear hfz99_4
            obtain ⟨kq, x68_90, rfl, HA, HJ90, BK322, BK329, HB⟩ := hcut
            cases kq with
            | zero => exact absurd HA.out (by simp [estoverslaw26_FaultplanNeeds.j1])
            | succ kj90 =>
              have H := HA.out
              clear HA
              simp only [estoverslaw26_FaultplanNeeds.j1] at H
              by_cases c100 : x68_90 = true
              · subst c100
                have H1 : (if t327 = 0 then (if t326 = 0 then ((estoverslaw26_awake.f kj90).bind fun t331 => (some t331)) else (some false)) else (some false)) = some r := by rw [if_pos rfl] at H; exact H
                clear H
                have H := H1
                clear H1
                by_cases c101 : t327 = 0
                · rw [if_pos c101] at H
                  have c101b0 : (t327 == 0) = true := beq_iff_eq.mpr c101
                  have c101b1 : (t327 != 0) = false := bne_eq_false_iff_eq.mpr c101
                  clear c101
                  by_cases c102 : t326 = 0
                  · rw [if_pos c102] at H
                    have c102b0 : (t326 == 0) = true := beq_iff_eq.mpr c102
                    have c102b1 : (t326 != 0) = false := bne_eq_false_iff_eq.mpr c102
                    clear c102
                    replace H := Option.bind_eq_some_iff.mp H
                    obtain ⟨t331, A1030, H⟩ := H
                    replace H : (some t331) = some r := H
                    have A103 := Aside0.mk A1030
                    clear A1030
                    obtain rfl := Option.some.inj H
                    have hnb104 := NB329_322.out
                    have hnc104 := NB322_329.out
                    have hcz105_0 : wc.cell? ⟨gb329, 0, none⟩ = some (.int .i64 t323) := (blk_cell BK329.out 0).trans rfl
                    have hcz105_1 : wc.cell? ⟨gb329, 1, none⟩ = some (.int .i64 t324) := (blk_cell BK329.out 1).trans rfl
                    have hcz105_2 : wc.cell? ⟨gb329, 2, none⟩ = some (.int .i64 t325) := (blk_cell BK329.out 2).trans rfl
                    have hcz105_3 : wc.cell? ⟨gb329, 3, none⟩ = some (.int .i64 t326) := (blk_cell BK329.out 3).trans rfl
                    have hcz105_4 : wc.cell? ⟨gb329, 4, none⟩ = some (.int .i64 t327) := (blk_cell BK329.out 4).trans rfl
                    have hfz105_0 := blk_frozen BK329.out 0
                    have hfz105_1 := blk_frozen BK329.out 1
                    have hfz105_2 := blk_frozen BK329.out 2
                    have hfz105_3 := blk_frozen BK329.out 3
                    have hfz105_4 := blk_frozen BK329.out 4
                    go_wp2_with (first | (go_at_call 12; (with_reducible refine (estoverslaw26_awake.calls kj90  t331 _ A103.out).mono ?_); rintro e w106 ⟨rfl, hb⟩; have n0_ := Aside0.mk (blk_below (g := gb322) (o := .cells #[.bool a0_0, .bool a0_1, .int .i64 a0_2, .bool a0_3, .bool a0_4, .bool a0_5, .bool a0_6, .int .i64 a0_7, .bool a0_8, .bool a0_9, .bool a0_10, .bool a0_11, .bool a0_12, .bool a0_13, .bool a0_14, .bool a0_15, .int .i64 a0_16] 23 (0, 0)) (by (with_reducible repeat (first | refine blk_drewN ?_ _ | refine blk_drew ?_ | refine blk_alloc ?_ _)); exact BK322.out) hb); have n1_ := Aside0.mk (blk_below (g := gb329) (o := .cells #[.int .i64 t323, .int .i64 t324, .int .i64 t325, .int .i64 t326, .int .i64 t327] 28 (0, 0)) (by (with_reducible repeat (first | refine blk_drewN ?_ _ | refine blk_drew ?_ | refine blk_alloc ?_ _)); exact BK329.out) hb); have n2_ := Aside0.mk (below_step (by repeat (first | (with_reducible first | exact HB.out | apply below_alloc | apply pw_below_drewN | apply below_drew1 | refine below_set ?_ GE322.out | refine below_set ?_ GE329.out) | exact HB.out)) hb); clear BK322; clear BK329; clear HB; have BK322 := n0_; have BK329 := n1_; have HB := n2_; clear n0_ n1_ n2_; (try clear hb); (try clear hb2); (try clear hk); (try clear hi)))
                    go_ret
                    exact ⟨by first | rfl | (simp [errW_none, errW_some] <;> rfl) | (simp [*, errW_none, errW_some] <;> rfl), by repeat (first | (with_reducible first | exact HB.out | apply below_alloc | apply pw_below_drewN | apply below_drew1 | refine below_set ?_ GE322.out | refine below_set ?_ GE329.out) | exact HB.out)⟩
                  · rw [if_neg c102] at H
                    have c102b0 : (t326 == 0) = false := beq_eq_false_iff_ne.mpr c102
                    have c102b1 : (t326 != 0) = true := bne_iff_ne.mpr c102
                    obtain rfl := Option.some.inj H
                    have hnb107 := NB329_322.out
                    have hnc107 := NB322_329.out
                    have hcz108_0 : wc.cell? ⟨gb329, 0, none⟩ = some (.int .i64 t323) := (blk_cell BK329.out 0).trans rfl
                    have hcz108_1 : wc.cell? ⟨gb329, 1, none⟩ = some (.int .i64 t324) := (blk_cell BK329.out 1).trans rfl
                    have hcz108_2 : wc.cell? ⟨gb329, 2, none⟩ = some (.int .i64 t325) := (blk_cell BK329.out 2).trans rfl
                    have hcz108_3 : wc.cell? ⟨gb329, 3, none⟩ = some (.int .i64 t326) := (blk_cell BK329.out 3).trans rfl
                    have hcz108_4 : wc.cell? ⟨gb329, 4, none⟩ = some (.int .i64 t327) := (blk_cell BK329.out 4).trans rfl
                    have hfz108_0 := blk_frozen BK329.out 0
                    have hfz108_1 := blk_frozen BK329.out 1
                    have hfz108_2 := blk_frozen BK329.out 2
                    have hfz108_3 := blk_frozen BK329.out 3
                    have hfz108_4 := blk_frozen BK329.out 4
                    go_wp2
                    go_ret
                    exact ⟨by first | rfl | (simp [errW_none, errW_some] <;> rfl) | (simp [*, errW_none, errW_some] <;> rfl), by repeat (first | (with_reducible first | exact HB.out | apply below_alloc | apply pw_below_drewN | apply below_drew1 | refine below_set ?_ GE322.out | refine below_set ?_ GE329.out) | exact HB.out)⟩
                · rw [if_neg c101] at H
                  have c101b0 : (t327 == 0) = false := beq_eq_false_iff_ne.mpr c101
                  have c101b1 : (t327 != 0) = true := bne_iff_ne.mpr c101
                  obtain rfl := Option.some.inj H
                  have hnb109 := NB329_322.out
                  have hnc109 := NB322_329.out
                  have hcz110_0 : wc.cell? ⟨gb329, 0, none⟩ = some (.int .i64 t323) := (blk_cell BK329.out 0).trans rfl
                  have hcz110_1 : wc.cell? ⟨gb329, 1, none⟩ = some (.int .i64 t324) := (blk_cell BK329.out 1).trans rfl
                  have hcz110_2 : wc.cell? ⟨gb329, 2, none⟩ = some (.int .i64 t325) := (blk_cell BK329.out 2).trans rfl
                  have hcz110_3 : wc.cell? ⟨gb329, 3, none⟩ = some (.int .i64 t326) := (blk_cell BK329.out 3).trans rfl
                  have hcz110_4 : wc.cell? ⟨gb329, 4, none⟩ = some (.int .i64 t327) := (blk_cell BK329.out 4).trans rfl
                  have hfz110_0 := blk_frozen BK329.out 0
                  have hfz110_1 := blk_frozen BK329.out 1
                  have hfz110_2 := blk_frozen BK329.out 2
                  have hfz110_3 := blk_frozen BK329.out 3
                  have hfz110_4 := blk_frozen BK329.out 4
                  go_wp2
                  go_ret
                  exact ⟨by first | rfl | (simp [errW_none, errW_some] <;> rfl) | (simp [*, errW_none, errW_some] <;> rfl), by repeat (first | (with_reducible first | exact HB.out | apply below_alloc | apply pw_below_drewN | apply below_drew1 | refine below_set ?_ GE322.out | refine below_set ?_ GE329.out) | exact HB.out)⟩
              · replace c100 := Bool.eq_false_iff.mpr c100
                subst c100
                have H1 : ((estoverslaw26_awake.f kj90).bind fun t332 => (some t332)) = some r := by rw [if_neg (show ¬ (false = true) by decide)] at H; exact H
                clear H
                have H := H1
                clear H1
                replace H := Option.bind_eq_some_iff.mp H
                obtain ⟨t332, A1110, H⟩ := H
                replace H : (some t332) = some r := H
                have A111 := Aside0.mk A1110
                clear A1110
                obtain rfl := Option.some.inj H
                go_wp2_with (first | ((with_reducible refine gate_callee (f := 12) rfl ?_); refine goesL_ (some 80) rfl rfl Try.func12 (by kernel_rfl) rfl #[] rfl (by (try simp only [List.map_toArray, List.map_cons, List.map_nil]); first | done | rfl | (simp only [List.length_drop, List.length_take]; rfl)) ?_; (with_reducible refine (estoverslaw26_awake.calls kj90  t332 _ A111.out).mono ?_); rintro e w112 ⟨rfl, hb⟩; refine ⟨_, rfl, ?_⟩; have n0_ := Aside0.mk (blk_below (g := gb322) (o := .cells #[.bool a0_0, .bool a0_1, .int .i64 a0_2, .bool a0_3, .bool a0_4, .bool a0_5, .bool a0_6, .int .i64 a0_7, .bool a0_8, .bool a0_9, .bool a0_10, .bool a0_11, .bool a0_12, .bool a0_13, .bool a0_14, .bool a0_15, .int .i64 a0_16] 23 (0, 0)) (by (with_reducible repeat (first | refine blk_drewN ?_ _ | refine blk_drew ?_ | refine blk_alloc ?_ _)); exact BK322.out) hb); have n1_ := Aside0.mk (blk_below (g := gb329) (o := .cells #[.int .i64 t323, .int .i64 t324, .int .i64 t325, .int .i64 t326, .int .i64 t327] 28 (0, 0)) (by (with_reducible repeat (first | refine blk_drewN ?_ _ | refine blk_drew ?_ | refine blk_alloc ?_ _)); exact BK329.out) hb); have n2_ := Aside0.mk (below_step (by repeat (first | (with_reducible first | exact HB.out | apply below_alloc | apply pw_below_drewN | apply below_drew1 | refine below_set ?_ GE322.out | refine below_set ?_ GE329.out) | exact HB.out)) hb); clear BK322; clear BK329; clear HB; have BK322 := n0_; have BK329 := n1_; have HB := n2_; clear n0_ n1_ n2_; (try clear hb); (try clear hb2); (try clear hk); (try clear hi)))
                go_ret
                exact ⟨by first | rfl | (simp [errW_none, errW_some] <;> rfl) | (simp [*, errW_none, errW_some] <;> rfl), by repeat (first | (with_reducible first | exact HB.out | apply below_alloc | apply pw_below_drewN | apply below_drew1 | refine below_set ?_ GE322.out | refine below_set ?_ GE329.out) | exact HB.out)⟩
  · rw [if_neg c3] at H
    have c3b0 : (t328 == 0) = false := beq_eq_false_iff_ne.mpr c3
    have c3b1 : (t328 != 0) = true := bne_iff_ne.mpr c3
    by_cases c113 : (t323 == 0 && (t324 == 0 && (t325 == 0 && (t326 == 0 && (t327 == 0))))) = true
    · rw [if_pos c113] at H
      have c113b0 : (t323 == 0 && (t324 == 0 && (t325 == 0 && (t326 == 0 && (t327 == 0))))) = true := c113
      (try (have c113b1 : decide (t323 = 0 && (t324 == 0 && (t325 == 0 && (t326 == 0 && (t327 == 0))))) = true := by simpa using c113))
      (try (have c113b2 : (t323 == 0 && (t324 == 0 && (t325 == 0 && (t326 == 0 && (t327 == 0))))) = true := by simpa using c113))
      clear c113
      replace H := Option.bind_eq_some_iff.mp H
      obtain ⟨t330, A1140, H⟩ := H
      replace H : (some t330) = some r := H
      have A114 := Aside0.mk A1140
      clear A1140
      obtain rfl := Option.some.inj H
      go_enter Try.func7, Try.ntmps7
      go_wp2_with (first | ((with_reducible refine gate_dst (N := 1) rfl ?_); refine box_event ?hg (N := 1) ?hd (cs := #[.bool a0_0, .bool a0_1, .int .i64 a0_2, .bool a0_3, .bool a0_4, .bool a0_5, .bool a0_6, .int .i64 a0_7, .bool a0_8, .bool a0_9, .bool a0_10, .bool a0_11, .bool a0_12, .bool a0_13, .bool a0_14, .bool a0_15, .int .i64 a0_16]) (t := 23) ?hr ?_; (case hd => rfl); (case hg => rfl); (case hr => first | (go_simp; done) | (go_simp; rfl)); intro gb322 hg w115 hbox hb; have n0_ := Aside0.mk (below_step (by repeat (first | (with_reducible first | exact HB.out | apply below_alloc | apply pw_below_drewN | apply below_drew1) | exact HB.out)) hb); have n1_ := Aside0.mk (hbox); have n2_ := Aside0.mk ((by rw [hg]; exact (below_size (by repeat (first | (with_reducible first | exact HB.out | apply below_alloc | apply pw_below_drewN | apply below_drew1) | exact HB.out))) : w.heap.size ≤ gb322)); have n3_ := Aside0.mk ((by rw [hg]; exact (below_size (by repeat (first | (with_reducible first | exact HB.out | apply below_alloc | apply pw_below_drewN | apply below_drew1) | exact HB.out))) : w.heap.size ≤ gb322)); clear HB; have HB := n0_; have BK322 := n1_; have GW322 := n2_; have GE322 := n3_; clear n0_ n1_ n2_ n3_; clear hb hbox hg; have hcz116_0 : w115.cell? ⟨gb322, 0, none⟩ = some (.bool a0_0) := (blk_cell BK322.out 0).trans rfl; have hcz116_1 : w115.cell? ⟨gb322, 1, none⟩ = some (.bool a0_1) := (blk_cell BK322.out 1).trans rfl; have hcz116_2 : w115.cell? ⟨gb322, 2, none⟩ = some (.int .i64 a0_2) := (blk_cell BK322.out 2).trans rfl; have hcz116_3 : w115.cell? ⟨gb322, 3, none⟩ = some (.bool a0_3) := (blk_cell BK322.out 3).trans rfl; have hcz116_4 : w115.cell? ⟨gb322, 4, none⟩ = some (.bool a0_4) := (blk_cell BK322.out 4).trans rfl; have hcz116_5 : w115.cell? ⟨gb322, 5, none⟩ = some (.bool a0_5) := (blk_cell BK322.out 5).trans rfl; have hcz116_6 : w115.cell? ⟨gb322, 6, none⟩ = some (.bool a0_6) := (blk_cell BK322.out 6).trans rfl; have hcz116_7 : w115.cell? ⟨gb322, 7, none⟩ = some (.int .i64 a0_7) := (blk_cell BK322.out 7).trans rfl; have hcz116_8 : w115.cell? ⟨gb322, 8, none⟩ = some (.bool a0_8) := (blk_cell BK322.out 8).trans rfl; have hcz116_9 : w115.cell? ⟨gb322, 9, none⟩ = some (.bool a0_9) := (blk_cell BK322.out 9).trans rfl; have hcz116_10 : w115.cell? ⟨gb322, 10, none⟩ = some (.bool a0_10) := (blk_cell BK322.out 10).trans rfl; have hcz116_11 : w115.cell? ⟨gb322, 11, none⟩ = some (.bool a0_11) := (blk_cell BK322.out 11).trans rfl; have hcz116_12 : w115.cell? ⟨gb322, 12, none⟩ = some (.bool a0_12) := (blk_cell BK322.out 12).trans rfl; have hcz116_13 : w115.cell? ⟨gb322, 13, none⟩ = some (.bool a0_13) := (blk_cell BK322.out 13).trans rfl; have hcz116_14 : w115.cell? ⟨gb322, 14, none⟩ = some (.bool a0_14) := (blk_cell BK322.out 14).trans rfl; have hcz116_15 : w115.cell? ⟨gb322, 15, none⟩ = some (.bool a0_15) := (blk_cell BK322.out 15).trans rfl; have hcz116_16 : w115.cell? ⟨gb322, 16, none⟩ = some (.int .i64 a0_16) := (blk_cell BK322.out 16).trans rfl; have hfz116_0 := blk_frozen BK322.out 0; have hfz116_1 := blk_frozen BK322.out 1; have hfz116_2 := blk_frozen BK322.out 2; have hfz116_3 := blk_frozen BK322.out 3; have hfz116_4 := blk_frozen BK322.out 4; have hfz116_5 := blk_frozen BK322.out 5; have hfz116_6 := blk_frozen BK322.out 6; have hfz116_7 := blk_frozen BK322.out 7; have hfz116_8 := blk_frozen BK322.out 8; have hfz116_9 := blk_frozen BK322.out 9; have hfz116_10 := blk_frozen BK322.out 10; have hfz116_11 := blk_frozen BK322.out 11; have hfz116_12 := blk_frozen BK322.out 12; have hfz116_13 := blk_frozen BK322.out 13; have hfz116_14 := blk_frozen BK322.out 14; have hfz116_15 := blk_frozen BK322.out 15; have hfz116_16 := blk_frozen BK322.out 16) | ((with_reducible refine gate_callee (f := 13) rfl ?_); refine goesL_ (some 7) rfl rfl Try.func13 (by kernel_rfl) rfl #[.agg #[.bool a0_0, .bool a0_1, .int .i64 a0_2, .bool a0_3, .bool a0_4, .bool a0_5, .bool a0_6, .int .i64 a0_7, .bool a0_8, .bool a0_9, .bool a0_10, .bool a0_11, .bool a0_12, .bool a0_13, .bool a0_14, .bool a0_15, .int .i64 a0_16]] rfl (by (try simp only [List.map_toArray, List.map_cons, List.map_nil]); first | done | rfl | (simp only [List.length_drop, List.length_take]; rfl)) ?_; (with_reducible refine (faultplan_Plan.calls k a0_0 a0_1 a0_2 a0_3 a0_4 a0_5 a0_6 a0_7 a0_8 a0_9 a0_10 a0_11 a0_12 a0_13 a0_14 a0_15 a0_16 t323 t324 t325 t326 t327 t328 _ A2.out).mono ?_); rintro e w117 ⟨rfl, hb⟩; refine ⟨_, rfl, ?_⟩; have n0_ := Aside0.mk (blk_below (g := gb322) (o := .cells #[.bool a0_0, .bool a0_1, .int .i64 a0_2, .bool a0_3, .bool a0_4, .bool a0_5, .bool a0_6, .int .i64 a0_7, .bool a0_8, .bool a0_9, .bool a0_10, .bool a0_11, .bool a0_12, .bool a0_13, .bool a0_14, .bool a0_15, .int .i64 a0_16] 23 (0, 0)) (by (with_reducible repeat (first | refine blk_drewN ?_ _ | refine blk_drew ?_ | refine blk_alloc ?_ _)); exact BK322.out) hb); have n1_ := Aside0.mk (below_step (by repeat (first | (with_reducible first | exact HB.out | apply below_alloc | apply pw_below_drewN | apply below_drew1 | refine below_set ?_ GE322.out) | exact HB.out)) hb); clear BK322; clear HB; have BK322 := n0_; have HB := n1_; clear n0_ n1_; (try clear hb); (try clear hb2); (try clear hk); (try clear hi)) | ((with_reducible refine gate_dst (N := 3) rfl ?_); refine box_event ?hg (N := 3) ?hd (cs := #[.int .i64 0, .int .i64 0, .int .i64 0, .int .i64 0, .int .i64 0]) (t := 28) ?hr ?_; (case hd => rfl); (case hg => rfl); (case hr => first | (go_simp; done) | (go_simp; rfl)); intro gb329 hg w118 hbox hb; have n0_ := Aside0.mk (blk_below (g := gb322) (o := .cells #[.bool a0_0, .bool a0_1, .int .i64 a0_2, .bool a0_3, .bool a0_4, .bool a0_5, .bool a0_6, .int .i64 a0_7, .bool a0_8, .bool a0_9, .bool a0_10, .bool a0_11, .bool a0_12, .bool a0_13, .bool a0_14, .bool a0_15, .int .i64 a0_16] 23 (0, 0)) (by (with_reducible repeat (first | refine blk_drewN ?_ _ | refine blk_drew ?_ | refine blk_alloc ?_ _)); exact BK322.out) hb); have n1_ := Aside0.mk (below_step (by repeat (first | (with_reducible first | exact HB.out | apply below_alloc | apply pw_below_drewN | apply below_drew1 | refine below_set ?_ GE322.out) | exact HB.out)) hb); have n2_ := Aside0.mk (hbox); have n3_ := Aside0.mk ((by rw [hg]; exact (below_size (by repeat (first | (with_reducible first | exact HB.out | apply below_alloc | apply pw_below_drewN | apply below_drew1 | refine below_set ?_ GE322.out) | exact HB.out))) : w.heap.size ≤ gb329)); have n4_ := Aside0.mk ((by rw [hg]; exact (below_size (by repeat (first | (with_reducible first | exact HB.out | apply below_alloc | apply pw_below_drewN | apply below_drew1 | refine below_set ?_ GE322.out) | exact HB.out))) : w.heap.size ≤ gb329)); have n5_ := Aside0.mk ((by rw [hg]; exact Nat.ne_of_lt (blk_lt (g := gb322) (o := .cells #[.bool a0_0, .bool a0_1, .int .i64 a0_2, .bool a0_3, .bool a0_4, .bool a0_5, .bool a0_6, .int .i64 a0_7, .bool a0_8, .bool a0_9, .bool a0_10, .bool a0_11, .bool a0_12, .bool a0_13, .bool a0_14, .bool a0_15, .int .i64 a0_16] 23 (0, 0)) (by (with_reducible repeat (first | refine blk_drewN ?_ _ | refine blk_drew ?_ | refine blk_alloc ?_ _)); exact BK322.out)) : gb322 ≠ gb329)); have n6_ := Aside0.mk ((by rw [hg]; exact Nat.ne_of_gt (blk_lt (g := gb322) (o := .cells #[.bool a0_0, .bool a0_1, .int .i64 a0_2, .bool a0_3, .bool a0_4, .bool a0_5, .bool a0_6, .int .i64 a0_7, .bool a0_8, .bool a0_9, .bool a0_10, .bool a0_11, .bool a0_12, .bool a0_13, .bool a0_14, .bool a0_15, .int .i64 a0_16] 23 (0, 0)) (by (with_reducible repeat (first | refine blk_drewN ?_ _ | refine blk_drew ?_ | refine blk_alloc ?_ _)); exact BK322.out)) : gb329 ≠ gb322)); clear BK322; clear HB; have BK322 := n0_; have HB := n1_; have BK329 := n2_; have GW329 := n3_; have GE329 := n4_; have NB322_329 := n5_; have NB329_322 := n6_; clear n0_ n1_ n2_ n3_ n4_ n5_ n6_; clear hb hbox hg; have hnb119 := NB329_322.out; have hnc119 := NB322_329.out; have hcz120_0 : w118.cell? ⟨gb329, 0, none⟩ = some (.int .i64 0) := (blk_cell BK329.out 0).trans rfl; have hcz120_1 : w118.cell? ⟨gb329, 1, none⟩ = some (.int .i64 0) := (blk_cell BK329.out 1).trans rfl; have hcz120_2 : w118.cell? ⟨gb329, 2, none⟩ = some (.int .i64 0) := (blk_cell BK329.out 2).trans rfl; have hcz120_3 : w118.cell? ⟨gb329, 3, none⟩ = some (.int .i64 0) := (blk_cell BK329.out 3).trans rfl; have hcz120_4 : w118.cell? ⟨gb329, 4, none⟩ = some (.int .i64 0) := (blk_cell BK329.out 4).trans rfl; have hfz120_0 := blk_frozen BK329.out 0; have hfz120_1 := blk_frozen BK329.out 1; have hfz120_2 := blk_frozen BK329.out 2; have hfz120_3 := blk_frozen BK329.out 3; have hfz120_4 := blk_frozen BK329.out 4) | (go_at_call 12; (with_reducible refine (estoverslaw26_awake.calls k  t330 _ A114.out).mono ?_); rintro e w121 ⟨rfl, hb⟩; have n0_ := Aside0.mk (blk_below (g := gb322) (o := .cells #[.bool a0_0, .bool a0_1, .int .i64 a0_2, .bool a0_3, .bool a0_4, .bool a0_5, .bool a0_6, .int .i64 a0_7, .bool a0_8, .bool a0_9, .bool a0_10, .bool a0_11, .bool a0_12, .bool a0_13, .bool a0_14, .bool a0_15, .int .i64 a0_16] 23 (0, 0)) (by (with_reducible repeat (first | refine blk_drewN ?_ _ | refine blk_drew ?_ | refine blk_alloc ?_ _)); refine blk_far ?_ NB322_329.out _; (with_reducible repeat (first | refine blk_drewN ?_ _ | refine blk_drew ?_ | refine blk_alloc ?_ _)); refine blk_far ?_ NB322_329.out _; (with_reducible repeat (first | refine blk_drewN ?_ _ | refine blk_drew ?_ | refine blk_alloc ?_ _)); refine blk_far ?_ NB322_329.out _; (with_reducible repeat (first | refine blk_drewN ?_ _ | refine blk_drew ?_ | refine blk_alloc ?_ _)); refine blk_far ?_ NB322_329.out _; (with_reducible repeat (first | refine blk_drewN ?_ _ | refine blk_drew ?_ | refine blk_alloc ?_ _)); refine blk_far ?_ NB322_329.out _; (with_reducible repeat (first | refine blk_drewN ?_ _ | refine blk_drew ?_ | refine blk_alloc ?_ _)); exact BK322.out) hb); have n1_ := Aside0.mk (blk_below (g := gb329) (o := .cells #[.int .i64 t323, .int .i64 t324, .int .i64 t325, .int .i64 t326, .int .i64 t327] 28 (0, 0)) (by (with_reducible repeat (first | refine blk_drewN ?_ _ | refine blk_drew ?_ | refine blk_alloc ?_ _)); refine blk_put (cs := #[.int .i64 t323, .int .i64 t324, .int .i64 t325, .int .i64 t326, .int .i64 0]) ?_ 4 _ rfl; (with_reducible repeat (first | refine blk_drewN ?_ _ | refine blk_drew ?_ | refine blk_alloc ?_ _)); refine blk_put (cs := #[.int .i64 t323, .int .i64 t324, .int .i64 t325, .int .i64 0, .int .i64 0]) ?_ 3 _ rfl; (with_reducible repeat (first | refine blk_drewN ?_ _ | refine blk_drew ?_ | refine blk_alloc ?_ _)); refine blk_put (cs := #[.int .i64 t323, .int .i64 t324, .int .i64 0, .int .i64 0, .int .i64 0]) ?_ 2 _ rfl; (with_reducible repeat (first | refine blk_drewN ?_ _ | refine blk_drew ?_ | refine blk_alloc ?_ _)); refine blk_put (cs := #[.int .i64 t323, .int .i64 0, .int .i64 0, .int .i64 0, .int .i64 0]) ?_ 1 _ rfl; (with_reducible repeat (first | refine blk_drewN ?_ _ | refine blk_drew ?_ | refine blk_alloc ?_ _)); refine blk_put (cs := #[.int .i64 0, .int .i64 0, .int .i64 0, .int .i64 0, .int .i64 0]) ?_ 0 _ rfl; (with_reducible repeat (first | refine blk_drewN ?_ _ | refine blk_drew ?_ | refine blk_alloc ?_ _)); exact BK329.out) hb); have n2_ := Aside0.mk (below_step (by repeat (first | (with_reducible first | exact HB.out | apply below_alloc | apply pw_below_drewN | apply below_drew1 | refine below_set ?_ GE322.out | refine below_set ?_ GE329.out) | exact HB.out)) hb); clear BK322; clear BK329; clear HB; have BK322 := n0_; have BK329 := n1_; have HB := n2_; clear n0_ n1_ n2_; (try clear hb); (try clear hb2); (try clear hk); (try clear hi)))
      go_ret
      exact ⟨by first | rfl | (simp [errW_none, errW_some] <;> rfl) | (simp [*, errW_none, errW_some] <;> rfl), by repeat (first | (with_reducible first | exact HB.out | apply below_alloc | apply pw_below_drewN | apply below_drew1 | refine below_set ?_ GE322.out | refine below_set ?_ GE329.out) | exact HB.out)⟩
    · rw [if_neg c113] at H
      have c113b0 : (t323 == 0 && (t324 == 0 && (t325 == 0 && (t326 == 0 && (t327 == 0))))) = false := by simpa using c113
      (try (have c113b1 : decide (t323 = 0 && (t324 == 0 && (t325 == 0 && (t326 == 0 && (t327 == 0))))) = false := by simpa using c113))
      (try (have c113b2 : (t323 == 0 && (t324 == 0 && (t325 == 0 && (t326 == 0 && (t327 == 0))))) = false := by simpa using c113))
      (try (have c113b3 : ¬ (t323 = 0 && (t324 == 0 && (t325 == 0 && (t326 == 0 && (t327 == 0))))) := by simpa using c113))
      clear c113
      obtain rfl := Option.some.inj H
      go_enter Try.func7, Try.ntmps7
      go_wp2_with (first | ((with_reducible refine gate_dst (N := 1) rfl ?_); refine box_event ?hg (N := 1) ?hd (cs := #[.bool a0_0, .bool a0_1, .int .i64 a0_2, .bool a0_3, .bool a0_4, .bool a0_5, .bool a0_6, .int .i64 a0_7, .bool a0_8, .bool a0_9, .bool a0_10, .bool a0_11, .bool a0_12, .bool a0_13, .bool a0_14, .bool a0_15, .int .i64 a0_16]) (t := 23) ?hr ?_; (case hd => rfl); (case hg => rfl); (case hr => first | (go_simp; done) | (go_simp; rfl)); intro gb322 hg w122 hbox hb; have n0_ := Aside0.mk (below_step (by repeat (first | (with_reducible first | exact HB.out | apply below_alloc | apply pw_below_drewN | apply below_drew1) | exact HB.out)) hb); have n1_ := Aside0.mk (hbox); have n2_ := Aside0.mk ((by rw [hg]; exact (below_size (by repeat (first | (with_reducible first | exact HB.out | apply below_alloc | apply pw_below_drewN | apply below_drew1) | exact HB.out))) : w.heap.size ≤ gb322)); have n3_ := Aside0.mk ((by rw [hg]; exact (below_size (by repeat (first | (with_reducible first | exact HB.out | apply below_alloc | apply pw_below_drewN | apply below_drew1) | exact HB.out))) : w.heap.size ≤ gb322)); clear HB; have HB := n0_; have BK322 := n1_; have GW322 := n2_; have GE322 := n3_; clear n0_ n1_ n2_ n3_; clear hb hbox hg; have hcz123_0 : w122.cell? ⟨gb322, 0, none⟩ = some (.bool a0_0) := (blk_cell BK322.out 0).trans rfl; have hcz123_1 : w122.cell? ⟨gb322, 1, none⟩ = some (.bool a0_1) := (blk_cell BK322.out 1).trans rfl; have hcz123_2 : w122.cell? ⟨gb322, 2, none⟩ = some (.int .i64 a0_2) := (blk_cell BK322.out 2).trans rfl; have hcz123_3 : w122.cell? ⟨gb322, 3, none⟩ = some (.bool a0_3) := (blk_cell BK322.out 3).trans rfl; have hcz123_4 : w122.cell? ⟨gb322, 4, none⟩ = some (.bool a0_4) := (blk_cell BK322.out 4).trans rfl; have hcz123_5 : w122.cell? ⟨gb322, 5, none⟩ = some (.bool a0_5) := (blk_cell BK322.out 5).trans rfl; have hcz123_6 : w122.cell? ⟨gb322, 6, none⟩ = some (.bool a0_6) := (blk_cell BK322.out 6).trans rfl; have hcz123_7 : w122.cell? ⟨gb322, 7, none⟩ = some (.int .i64 a0_7) := (blk_cell BK322.out 7).trans rfl; have hcz123_8 : w122.cell? ⟨gb322, 8, none⟩ = some (.bool a0_8) := (blk_cell BK322.out 8).trans rfl; have hcz123_9 : w122.cell? ⟨gb322, 9, none⟩ = some (.bool a0_9) := (blk_cell BK322.out 9).trans rfl; have hcz123_10 : w122.cell? ⟨gb322, 10, none⟩ = some (.bool a0_10) := (blk_cell BK322.out 10).trans rfl; have hcz123_11 : w122.cell? ⟨gb322, 11, none⟩ = some (.bool a0_11) := (blk_cell BK322.out 11).trans rfl; have hcz123_12 : w122.cell? ⟨gb322, 12, none⟩ = some (.bool a0_12) := (blk_cell BK322.out 12).trans rfl; have hcz123_13 : w122.cell? ⟨gb322, 13, none⟩ = some (.bool a0_13) := (blk_cell BK322.out 13).trans rfl; have hcz123_14 : w122.cell? ⟨gb322, 14, none⟩ = some (.bool a0_14) := (blk_cell BK322.out 14).trans rfl; have hcz123_15 : w122.cell? ⟨gb322, 15, none⟩ = some (.bool a0_15) := (blk_cell BK322.out 15).trans rfl; have hcz123_16 : w122.cell? ⟨gb322, 16, none⟩ = some (.int .i64 a0_16) := (blk_cell BK322.out 16).trans rfl; have hfz123_0 := blk_frozen BK322.out 0; have hfz123_1 := blk_frozen BK322.out 1; have hfz123_2 := blk_frozen BK322.out 2; have hfz123_3 := blk_frozen BK322.out 3; have hfz123_4 := blk_frozen BK322.out 4; have hfz123_5 := blk_frozen BK322.out 5; have hfz123_6 := blk_frozen BK322.out 6; have hfz123_7 := blk_frozen BK322.out 7; have hfz123_8 := blk_frozen BK322.out 8; have hfz123_9 := blk_frozen BK322.out 9; have hfz123_10 := blk_frozen BK322.out 10; have hfz123_11 := blk_frozen BK322.out 11; have hfz123_12 := blk_frozen BK322.out 12; have hfz123_13 := blk_frozen BK322.out 13; have hfz123_14 := blk_frozen BK322.out 14; have hfz123_15 := blk_frozen BK322.out 15; have hfz123_16 := blk_frozen BK322.out 16) | ((with_reducible refine gate_callee (f := 13) rfl ?_); refine goesL_ (some 7) rfl rfl Try.func13 (by kernel_rfl) rfl #[.agg #[.bool a0_0, .bool a0_1, .int .i64 a0_2, .bool a0_3, .bool a0_4, .bool a0_5, .bool a0_6, .int .i64 a0_7, .bool a0_8, .bool a0_9, .bool a0_10, .bool a0_11, .bool a0_12, .bool a0_13, .bool a0_14, .bool a0_15, .int .i64 a0_16]] rfl (by (try simp only [List.map_toArray, List.map_cons, List.map_nil]); first | done | rfl | (simp only [List.length_drop, List.length_take]; rfl)) ?_; (with_reducible refine (faultplan_Plan.calls k a0_0 a0_1 a0_2 a0_3 a0_4 a0_5 a0_6 a0_7 a0_8 a0_9 a0_10 a0_11 a0_12 a0_13 a0_14 a0_15 a0_16 t323 t324 t325 t326 t327 t328 _ A2.out).mono ?_); rintro e w124 ⟨rfl, hb⟩; refine ⟨_, rfl, ?_⟩; have n0_ := Aside0.mk (blk_below (g := gb322) (o := .cells #[.bool a0_0, .bool a0_1, .int .i64 a0_2, .bool a0_3, .bool a0_4, .bool a0_5, .bool a0_6, .int .i64 a0_7, .bool a0_8, .bool a0_9, .bool a0_10, .bool a0_11, .bool a0_12, .bool a0_13, .bool a0_14, .bool a0_15, .int .i64 a0_16] 23 (0, 0)) (by (with_reducible repeat (first | refine blk_drewN ?_ _ | refine blk_drew ?_ | refine blk_alloc ?_ _)); exact BK322.out) hb); have n1_ := Aside0.mk (below_step (by repeat (first | (with_reducible first | exact HB.out | apply below_alloc | apply pw_below_drewN | apply below_drew1 | refine below_set ?_ GE322.out) | exact HB.out)) hb); clear BK322; clear HB; have BK322 := n0_; have HB := n1_; clear n0_ n1_; (try clear hb); (try clear hb2); (try clear hk); (try clear hi)) | ((with_reducible refine gate_dst (N := 3) rfl ?_); refine box_event ?hg (N := 3) ?hd (cs := #[.int .i64 0, .int .i64 0, .int .i64 0, .int .i64 0, .int .i64 0]) (t := 28) ?hr ?_; (case hd => rfl); (case hg => rfl); (case hr => first | (go_simp; done) | (go_simp; rfl)); intro gb329 hg w125 hbox hb; have n0_ := Aside0.mk (blk_below (g := gb322) (o := .cells #[.bool a0_0, .bool a0_1, .int .i64 a0_2, .bool a0_3, .bool a0_4, .bool a0_5, .bool a0_6, .int .i64 a0_7, .bool a0_8, .bool a0_9, .bool a0_10, .bool a0_11, .bool a0_12, .bool a0_13, .bool a0_14, .bool a0_15, .int .i64 a0_16] 23 (0, 0)) (by (with_reducible repeat (first | refine blk_drewN ?_ _ | refine blk_drew ?_ | refine blk_alloc ?_ _)); exact BK322.out) hb); have n1_ := Aside0.mk (below_step (by repeat (first | (with_reducible first | exact HB.out | apply below_alloc | apply pw_below_drewN | apply below_drew1 | refine below_set ?_ GE322.out) | exact HB.out)) hb); have n2_ := Aside0.mk (hbox); have n3_ := Aside0.mk ((by rw [hg]; exact (below_size (by repeat (first | (with_reducible first | exact HB.out | apply below_alloc | apply pw_below_drewN | apply below_drew1 | refine below_set ?_ GE322.out) | exact HB.out))) : w.heap.size ≤ gb329)); have n4_ := Aside0.mk ((by rw [hg]; exact (below_size (by repeat (first | (with_reducible first | exact HB.out | apply below_alloc | apply pw_below_drewN | apply below_drew1 | refine below_set ?_ GE322.out) | exact HB.out))) : w.heap.size ≤ gb329)); have n5_ := Aside0.mk ((by rw [hg]; exact Nat.ne_of_lt (blk_lt (g := gb322) (o := .cells #[.bool a0_0, .bool a0_1, .int .i64 a0_2, .bool a0_3, .bool a0_4, .bool a0_5, .bool a0_6, .int .i64 a0_7, .bool a0_8, .bool a0_9, .bool a0_10, .bool a0_11, .bool a0_12, .bool a0_13, .bool a0_14, .bool a0_15, .int .i64 a0_16] 23 (0, 0)) (by (with_reducible repeat (first | refine blk_drewN ?_ _ | refine blk_drew ?_ | refine blk_alloc ?_ _)); exact BK322.out)) : gb322 ≠ gb329)); have n6_ := Aside0.mk ((by rw [hg]; exact Nat.ne_of_gt (blk_lt (g := gb322) (o := .cells #[.bool a0_0, .bool a0_1, .int .i64 a0_2, .bool a0_3, .bool a0_4, .bool a0_5, .bool a0_6, .int .i64 a0_7, .bool a0_8, .bool a0_9, .bool a0_10, .bool a0_11, .bool a0_12, .bool a0_13, .bool a0_14, .bool a0_15, .int .i64 a0_16] 23 (0, 0)) (by (with_reducible repeat (first | refine blk_drewN ?_ _ | refine blk_drew ?_ | refine blk_alloc ?_ _)); exact BK322.out)) : gb329 ≠ gb322)); clear BK322; clear HB; have BK322 := n0_; have HB := n1_; have BK329 := n2_; have GW329 := n3_; have GE329 := n4_; have NB322_329 := n5_; have NB329_322 := n6_; clear n0_ n1_ n2_ n3_ n4_ n5_ n6_; clear hb hbox hg; have hnb126 := NB329_322.out; have hnc126 := NB322_329.out; have hcz127_0 : w125.cell? ⟨gb329, 0, none⟩ = some (.int .i64 0) := (blk_cell BK329.out 0).trans rfl; have hcz127_1 : w125.cell? ⟨gb329, 1, none⟩ = some (.int .i64 0) := (blk_cell BK329.out 1).trans rfl; have hcz127_2 : w125.cell? ⟨gb329, 2, none⟩ = some (.int .i64 0) := (blk_cell BK329.out 2).trans rfl; have hcz127_3 : w125.cell? ⟨gb329, 3, none⟩ = some (.int .i64 0) := (blk_cell BK329.out 3).trans rfl; have hcz127_4 : w125.cell? ⟨gb329, 4, none⟩ = some (.int .i64 0) := (blk_cell BK329.out 4).trans rfl; have hfz127_0 := blk_frozen BK329.out 0; have hfz127_1 := blk_frozen BK329.out 1; have hfz127_2 := blk_frozen BK329.out 2; have hfz127_3 := blk_frozen BK329.out 3; have hfz127_4 := blk_frozen BK329.out 4))
      go_ret
      exact ⟨by first | rfl | (simp [errW_none, errW_some] <;> rfl) | (simp [*, errW_none, errW_some] <;> rfl), by repeat (first | (with_reducible first | exact HB.out | apply below_alloc | apply pw_below_drewN | apply below_drew1 | refine below_set ?_ GE322.out | refine below_set ?_ GE329.out) | exact HB.out)⟩

end Go.Proofs.Ytfobedaepflidaa.F

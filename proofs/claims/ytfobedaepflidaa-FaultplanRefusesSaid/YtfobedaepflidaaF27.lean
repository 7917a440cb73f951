-- Written by a program of this session (own_print.py) that runs the kit's printer. Lean checks it.
import Derived.Test.YtfobedaepflidaaF0
import Derived.Test.YtfobedaepflidaaF10
import Derived.Test.YtfobedaepflidaaF13
namespace Go.Proofs.Ytfobedaepflidaa.F
open Go.RowKit Go.Proofs.YtfobedaepflidaaW.PrintWords Go.Proofs.YtfobedaepflidaaW.PrintLast Go.Proofs.YtfobedaepflidaaW.PrintMore
attribute [local go_sem] max2_int min2_int max_two min_two max_three min_three max_four min_four   -- for this text's walks alone
set_option linter.unusedVariables false
set_option linter.unusedSimpArgs false

attribute [local go_sem ↓ high] ld23a sv23a
attribute [local go_sem high] ld23 sv23
/-! ### estoverslaw26_FaultplanRefuses: function 8 -/
def estoverslaw26_FaultplanRefuses.j0 : Nat → Int → Bool → Bool → Bool → Int → Bool → Bool → Bool → Bool → Int → Bool → Bool → Bool → Bool → Bool → Bool → Bool → Bool → Int → Int → Int → Int → Int → Int → Option (Bool)
  | 0, _, _, _, _, _, _, _, _, _, _, _, _, _, _, _, _, _, _, _, _, _, _, _, _ => none
  | k + 1, x5, x18, x334000, x334001, x334002, x334003, x334004, x334005, x334006, x334007, x334008, x334009, x334010, x334011, x334012, x334013, x334014, x334015, x334016, x341000, x341001, x341002, x341003, x341004 => if x18 = true then (if x341001 = 12 then ((estoverslaw26_awake.f k).bind fun t342 => (some t342)) else (some false)) else (if x334005 = true then (if x334007 = 2 then (if x341001 = x5 then ((estoverslaw26_awake.f k).bind fun t343 => (some t343)) else (some false)) else (if x334007 = 0 then (if x341001 = 14 then ((estoverslaw26_awake.f k).bind fun t344 => (some t344)) else (some false)) else (if x334010 = true then (if x341001 = x5 then ((estoverslaw26_awake.f k).bind fun t345 => (some t345)) else (some false)) else (if x341001 = 14 then ((estoverslaw26_awake.f k).bind fun t346 => (some t346)) else (some false))))) else (if x341001 = x5 then ((estoverslaw26_awake.f k).bind fun t347 => (some t347)) else (some false)))
def estoverslaw26_FaultplanRefuses.f (k : Nat) (a0_0 : Bool) (a0_1 : Bool) (a0_2 : Int) (a0_3 : Bool) (a0_4 : Bool) (a0_5 : Bool) (a0_6 : Bool) (a0_7 : Int) (a0_8 : Bool) (a0_9 : Bool) (a0_10 : Bool) (a0_11 : Bool) (a0_12 : Bool) (a0_13 : Bool) (a0_14 : Bool) (a0_15 : Bool) (a0_16 : Int) : Option (Bool) := (faultplan_Plan.f k a0_0 a0_1 a0_2 a0_3 a0_4 a0_5 a0_6 a0_7 a0_8 a0_9 a0_10 a0_11 a0_12 a0_13 a0_14 a0_15 a0_16).bind fun bt334 => (if bt334.2.2.2.2.2 = 0 then (if a0_1 = true then (if a0_0 = true then (estoverslaw26_FaultplanRefuses.j0 k 0 (a0_2 == 1) a0_0 a0_1 a0_2 a0_3 a0_4 a0_5 a0_6 a0_7 a0_8 a0_9 a0_10 a0_11 a0_12 a0_13 a0_14 a0_15 a0_16 bt334.1 bt334.2.1 bt334.2.2.1 bt334.2.2.2.1 bt334.2.2.2.2.1) else (estoverslaw26_FaultplanRefuses.j0 k 0 false a0_0 a0_1 a0_2 a0_3 a0_4 a0_5 a0_6 a0_7 a0_8 a0_9 a0_10 a0_11 a0_12 a0_13 a0_14 a0_15 a0_16 bt334.1 bt334.2.1 bt334.2.2.1 bt334.2.2.2.1 bt334.2.2.2.2.1)) else (if bt334.2.1 = 13 then ((estoverslaw26_awake.f k).bind fun t348 => (some t348)) else (some false))) else ((estoverslaw26_awake.f k).bind fun t341 => (some t341)))
theorem estoverslaw26_FaultplanRefuses.mono_l : ∀ k, (∀ y0 y1 y2 y3 y4 y5 y6 y7 y8 y9 y10 y11 y12 y13 y14 y15 y16 y17 y18 y19 y20 y21 y22 y23, LeO (estoverslaw26_FaultplanRefuses.j0 k y0 y1 y2 y3 y4 y5 y6 y7 y8 y9 y10 y11 y12 y13 y14 y15 y16 y17 y18 y19 y20 y21 y22 y23) (estoverslaw26_FaultplanRefuses.j0 (k + 1) y0 y1 y2 y3 y4 y5 y6 y7 y8 y9 y10 y11 y12 y13 y14 y15 y16 y17 y18 y19 y20 y21 y22 y23))
  | 0 => fun _ _ _ _ _ _ _ _ _ _ _ _ _ _ _ _ _ _ _ _ _ _ _ _ r h => by simp [estoverslaw26_FaultplanRefuses.j0] at h
  | k + 1 => by
    have ih0 := estoverslaw26_FaultplanRefuses.mono_l k
    · intro y0 y1 y2 y3 y4 y5 y6 y7 y8 y9 y10 y11 y12 y13 y14 y15 y16 y17 y18 y19 y20 y21 y22 y23
      unfold estoverslaw26_FaultplanRefuses.j0
      repeat' first
      | (with_reducible exact ih0 _ _ _ _ _ _ _ _ _ _ _ _ _ _ _ _ _ _ _ _ _ _ _ _)
      | (with_reducible exact estoverslaw26_awake.mono _)
      | (with_reducible exact faultplan_Plan.mono _ _ _ _ _ _ _ _ _ _ _ _ _ _ _ _ _ _)
      | (with_reducible exact LeO.refl _)
      | (with_reducible exact LeO.none _)
      | (with_reducible refine LeO.ite ?_ ?_)
      | (with_reducible refine LeO.bind ?_ (fun _ => ?_))
      | exact ih0 _ _ _ _ _ _ _ _ _ _ _ _ _ _ _ _ _ _ _ _ _ _ _ _
      | exact estoverslaw26_awake.mono _
      | exact faultplan_Plan.mono _ _ _ _ _ _ _ _ _ _ _ _ _ _ _ _ _ _
      | exact LeO.none _
      | refine LeO.ite ?_ ?_
      | refine LeO.bind ?_ (fun _ => ?_)
theorem estoverslaw26_FaultplanRefuses.mono : ∀ a0 a1 a2 a3 a4 a5 a6 a7 a8 a9 a10 a11 a12 a13 a14 a15 a16 k, LeO (estoverslaw26_FaultplanRefuses.f k a0 a1 a2 a3 a4 a5 a6 a7 a8 a9 a10 a11 a12 a13 a14 a15 a16) (estoverslaw26_FaultplanRefuses.f (k + 1) a0 a1 a2 a3 a4 a5 a6 a7 a8 a9 a10 a11 a12 a13 a14 a15 a16) := by
  intro a0 a1 a2 a3 a4 a5 a6 a7 a8 a9 a10 a11 a12 a13 a14 a15 a16 k
  have ih0 := estoverslaw26_FaultplanRefuses.mono_l k
  unfold estoverslaw26_FaultplanRefuses.f
  repeat' first
      | (with_reducible exact ih0 _ _ _ _ _ _ _ _ _ _ _ _ _ _ _ _ _ _ _ _ _ _ _ _)
      | (with_reducible exact estoverslaw26_awake.mono _)
      | (with_reducible exact faultplan_Plan.mono _ _ _ _ _ _ _ _ _ _ _ _ _ _ _ _ _ _)
      | (with_reducible exact LeO.refl _)
      | (with_reducible exact LeO.none _)
      | (with_reducible refine LeO.ite ?_ ?_)
      | (with_reducible refine LeO.bind ?_ (fun _ => ?_))
      | exact ih0 _ _ _ _ _ _ _ _ _ _ _ _ _ _ _ _ _ _ _ _ _ _ _ _
      | exact estoverslaw26_awake.mono _
      | exact faultplan_Plan.mono _ _ _ _ _ _ _ _ _ _ _ _ _ _ _ _ _ _
      | exact LeO.none _
      | refine LeO.ite ?_ ?_
      | refine LeO.bind ?_ (fun _ => ?_)
set_option maxHeartbeats 8000000 in
set_option maxRecDepth 100000 in
theorem estoverslaw26_FaultplanRefuses.calls (k : Nat) (a0_0 : Bool) (a0_1 : Bool) (a0_2 : Int) (a0_3 : Bool) (a0_4 : Bool) (a0_5 : Bool) (a0_6 : Bool) (a0_7 : Int) (a0_8 : Bool) (a0_9 : Bool) (a0_10 : Bool) (a0_11 : Bool) (a0_12 : Bool) (a0_13 : Bool) (a0_14 : Bool) (a0_15 : Bool) (a0_16 : Int) (r : Bool) (w : World) (h : estoverslaw26_FaultplanRefuses.f k a0_0 a0_1 a0_2 a0_3 a0_4 a0_5 a0_6 a0_7 a0_8 a0_9 a0_10 a0_11 a0_12 a0_13 a0_14 a0_15 a0_16 = some r) :
    Calls Try.prog 8 #[.agg #[.bool a0_0, .bool a0_1, .int .i64 a0_2, .bool a0_3, .bool a0_4, .bool a0_5, .bool a0_6, .int .i64 a0_7, .bool a0_8, .bool a0_9, .bool a0_10, .bool a0_11, .bool a0_12, .bool a0_13, .bool a0_14, .bool a0_15, .int .i64 a0_16]] w fun e w' => e = .returned (.bool r) ∧ Below w.heap.size w w' := by
  have hu23 := Try.underlying23
  have hu28 := Try.underlying28
  have HB := Aside0.mk (Below.refl w.heap.size w)
  have H : ((faultplan_Plan.f k a0_0 a0_1 a0_2 a0_3 a0_4 a0_5 a0_6 a0_7 a0_8 a0_9 a0_10 a0_11 a0_12 a0_13 a0_14 a0_15 a0_16).bind fun bt334 => (if bt334.2.2.2.2.2 = 0 then (if a0_1 = true then (if a0_0 = true then (estoverslaw26_FaultplanRefuses.j0 k 0 (a0_2 == 1) a0_0 a0_1 a0_2 a0_3 a0_4 a0_5 a0_6 a0_7 a0_8 a0_9 a0_10 a0_11 a0_12 a0_13 a0_14 a0_15 a0_16 bt334.1 bt334.2.1 bt334.2.2.1 bt334.2.2.2.1 bt334.2.2.2.2.1) else (estoverslaw26_FaultplanRefuses.j0 k 0 false a0_0 a0_1 a0_2 a0_3 a0_4 a0_5 a0_6 a0_7 a0_8 a0_9 a0_10 a0_11 a0_12 a0_13 a0_14 a0_15 a0_16 bt334.1 bt334.2.1 bt334.2.2.1 bt334.2.2.2.1 bt334.2.2.2.2.1)) else (if bt334.2.1 = 13 then ((estoverslaw26_awake.f k).bind fun t348 => (some t348)) else (some false))) else ((estoverslaw26_awake.f k).bind fun t341 => (some t341)))) = some r := h
  clear h
  replace H := Option.bind_eq_some_iff.mp H
  obtain ⟨⟨t334, t335, t336, t337, t338, t339⟩, A20, H⟩ := H
  replace H : (if t339 = 0 then (if a0_1 = true then (if a0_0 = true then (estoverslaw26_FaultplanRefuses.j0 k 0 (a0_2 == 1) a0_0 a0_1 a0_2 a0_3 a0_4 a0_5 a0_6 a0_7 a0_8 a0_9 a0_10 a0_11 a0_12 a0_13 a0_14 a0_15 a0_16 t334 t335 t336 t337 t338) else (estoverslaw26_FaultplanRefuses.j0 k 0 false a0_0 a0_1 a0_2 a0_3 a0_4 a0_5 a0_6 a0_7 a0_8 a0_9 a0_10 a0_11 a0_12 a0_13 a0_14 a0_15 a0_16 t334 t335 t336 t337 t338)) else (if t335 = 13 then ((estoverslaw26_awake.f k).bind fun t348 => (some t348)) else (some false))) else ((estoverslaw26_awake.f k).bind fun t341 => (some t341))) = some r := H
  have A2 := Aside0.mk A20
  clear A20
  by_cases c3 : t339 = 0
  · rw [if_pos c3] at H
    have c3b0 : (t339 == 0) = true := beq_iff_eq.mpr c3
    have c3b1 : (t339 != 0) = false := bne_eq_false_iff_eq.mpr c3
    clear c3
    by_cases c4 : a0_1 = true
    · subst c4
      have H1 : (if a0_0 = true then (estoverslaw26_FaultplanRefuses.j0 k 0 (a0_2 == 1) a0_0 true a0_2 a0_3 a0_4 a0_5 a0_6 a0_7 a0_8 a0_9 a0_10 a0_11 a0_12 a0_13 a0_14 a0_15 a0_16 t334 t335 t336 t337 t338) else (estoverslaw26_FaultplanRefuses.j0 k 0 false a0_0 true a0_2 a0_3 a0_4 a0_5 a0_6 a0_7 a0_8 a0_9 a0_10 a0_11 a0_12 a0_13 a0_14 a0_15 a0_16 t334 t335 t336 t337 t338)) = some r := by rw [if_pos rfl] at H; exact H
      clear H
      have H := H1
      clear H1
      have HC5 := Aside0.mk H
      clear H
      go_enter Try.func8, Try.ntmps8
      go_upto_region 7 with (first | ((with_reducible refine gate_dst (N := 1) rfl ?_); refine box_event ?hg (N := 1) ?hd (cs := #[.bool a0_0, .bool true, .int .i64 a0_2, .bool a0_3, .bool a0_4, .bool a0_5, .bool a0_6, .int .i64 a0_7, .bool a0_8, .bool a0_9, .bool a0_10, .bool a0_11, .bool a0_12, .bool a0_13, .bool a0_14, .bool a0_15, .int .i64 a0_16]) (t := 23) ?hr ?_; (case hd => rfl); (case hg => rfl); (case hr => first | (go_simp; done) | (go_simp; rfl)); intro gb333 hg w6 hbox hb; have n0_ := Aside0.mk (below_step (by repeat (first | (with_reducible first | exact HB.out | apply below_alloc | apply pw_below_drewN | apply below_drew1) | exact HB.out)) hb); have n1_ := Aside0.mk (hbox); have n2_ := Aside0.mk ((by rw [hg]; exact (below_size (by repeat (first | (with_reducible first | exact HB.out | apply below_alloc | apply pw_below_drewN | apply below_drew1) | exact HB.out))) : w.heap.size ≤ gb333)); have n3_ := Aside0.mk ((by rw [hg]; exact (below_size (by repeat (first | (with_reducible first | exact HB.out | apply below_alloc | apply pw_below_drewN | apply below_drew1) | exact HB.out))) : w.heap.size ≤ gb333)); clear HB; have HB := n0_; have BK333 := n1_; have GW333 := n2_; have GE333 := n3_; clear n0_ n1_ n2_ n3_; clear hb hbox hg; have hcz7_0 : w6.cell? ⟨gb333, 0, none⟩ = some (.bool a0_0) := (blk_cell BK333.out 0).trans rfl; have hcz7_1 : w6.cell? ⟨gb333, 1, none⟩ = some (.bool true) := (blk_cell BK333.out 1).trans rfl; have hcz7_2 : w6.cell? ⟨gb333, 2, none⟩ = some (.int .i64 a0_2) := (blk_cell BK333.out 2).trans rfl; have hcz7_3 : w6.cell? ⟨gb333, 3, none⟩ = some (.bool a0_3) := (blk_cell BK333.out 3).trans rfl; have hcz7_4 : w6.cell? ⟨gb333, 4, none⟩ = some (.bool a0_4) := (blk_cell BK333.out 4).trans rfl; have hcz7_5 : w6.cell? ⟨gb333, 5, none⟩ = some (.bool a0_5) := (blk_cell BK333.out 5).trans rfl; have hcz7_6 : w6.cell? ⟨gb333, 6, none⟩ = some (.bool a0_6) := (blk_cell BK333.out 6).trans rfl; have hcz7_7 : w6.cell? ⟨gb333, 7, none⟩ = some (.int .i64 a0_7) := (blk_cell BK333.out 7).trans rfl; have hcz7_8 : w6.cell? ⟨gb333, 8, none⟩ = some (.bool a0_8) := (blk_cell BK333.out 8).trans rfl; have hcz7_9 : w6.cell? ⟨gb333, 9, none⟩ = some (.bool a0_9) := (blk_cell BK333.out 9).trans rfl; have hcz7_10 : w6.cell? ⟨gb333, 10, none⟩ = some (.bool a0_10) := (blk_cell BK333.out 10).trans rfl; have hcz7_11 : w6.cell? ⟨gb333, 11, none⟩ = some (.bool a0_11) := (blk_cell BK333.out 11).trans rfl; have hcz7_12 : w6.cell? ⟨gb333, 12, none⟩ = some (.bool a0_12) := (blk_cell BK333.out 12).trans rfl; have hcz7_13 : w6.cell? ⟨gb333, 13, none⟩ = some (.bool a0_13) := (blk_cell BK333.out 13).trans rfl; have hcz7_14 : w6.cell? ⟨gb333, 14, none⟩ = some (.bool a0_14) := (blk_cell BK333.out 14).trans rfl; have hcz7_15 : w6.cell? ⟨gb333, 15, none⟩ = some (.bool a0_15) := (blk_cell BK333.out 15).trans rfl; have hcz7_16 : w6.cell? ⟨gb333, 16, none⟩ = some (.int .i64 a0_16) := (blk_cell BK333.out 16).trans rfl; have hfz7_0 := blk_frozen BK333.out 0; have hfz7_1 := blk_frozen BK333.out 1; have hfz7_2 := blk_frozen BK333.out 2; have hfz7_3 := blk_frozen BK333.out 3; have hfz7_4 := blk_frozen BK333.out 4; have hfz7_5 := blk_frozen BK333.out 5; have hfz7_6 := blk_frozen BK333.out 6; have hfz7_7 := blk_frozen BK333.out 7; have hfz7_8 := blk_frozen BK333.out 8; have hfz7_9 := blk_frozen BK333.out 9; have hfz7_10 := blk_frozen BK333.out 10; have hfz7_11 := blk_frozen BK333.out 11; have hfz7_12 := blk_frozen BK333.out 12; have hfz7_13 := blk_frozen BK333.out 13; have hfz7_14 := blk_frozen BK333.out 14; have hfz7_15 := blk_frozen BK333.out 15; have hfz7_16 := blk_frozen BK333.out 16) | ((with_reducible refine gate_callee (f := 13) rfl ?_); refine goesL_ (some 8) rfl rfl Try.func13 (by kernel_rfl) rfl #[.agg #[.bool a0_0, .bool true, .int .i64 a0_2, .bool a0_3, .bool a0_4, .bool a0_5, .bool a0_6, .int .i64 a0_7, .bool a0_8, .bool a0_9, .bool a0_10, .bool a0_11, .bool a0_12, .bool a0_13, .bool a0_14, .bool a0_15, .int .i64 a0_16]] rfl (by (try simp only [List.map_toArray, List.map_cons, List.map_nil]); first | done | rfl | (simp only [List.length_drop, List.length_take]; rfl)) ?_; (with_reducible refine (faultplan_Plan.calls k a0_0 true a0_2 a0_3 a0_4 a0_5 a0_6 a0_7 a0_8 a0_9 a0_10 a0_11 a0_12 a0_13 a0_14 a0_15 a0_16 t334 t335 t336 t337 t338 t339 _ A2.out).mono ?_); rintro e w8 ⟨rfl, hb⟩; refine ⟨_, rfl, ?_⟩; have n0_ := Aside0.mk (blk_below (g := gb333) (o := .cells #[.bool a0_0, .bool true, .int .i64 a0_2, .bool a0_3, .bool a0_4, .bool a0_5, .bool a0_6, .int .i64 a0_7, .bool a0_8, .bool a0_9, .bool a0_10, .bool a0_11, .bool a0_12, .bool a0_13, .bool a0_14, .bool a0_15, .int .i64 a0_16] 23 (0, 0)) (by (with_reducible repeat (first | refine blk_drewN ?_ _ | refine blk_drew ?_ | refine blk_alloc ?_ _)); exact BK333.out) hb); have n1_ := Aside0.mk (below_step (by repeat (first | (with_reducible first | exact HB.out | apply below_alloc | apply pw_below_drewN | apply below_drew1 | refine below_set ?_ GE333.out) | exact HB.out)) hb); clear BK333; clear HB; have BK333 := n0_; have HB := n1_; clear n0_ n1_; (try clear hb); (try clear hb2); (try clear hk); (try clear hi)) | ((with_reducible refine gate_dst (N := 3) rfl ?_); refine box_event ?hg (N := 3) ?hd (cs := #[.int .i64 0, .int .i64 0, .int .i64 0, .int .i64 0, .int .i64 0]) (t := 28) ?hr ?_; (case hd => rfl); (case hg => rfl); (case hr => first | (go_simp; done) | (go_simp; rfl)); intro gb340 hg w9 hbox hb; have n0_ := Aside0.mk (blk_below (g := gb333) (o := .cells #[.bool a0_0, .bool true, .int .i64 a0_2, .bool a0_3, .bool a0_4, .bool a0_5, .bool a0_6, .int .i64 a0_7, .bool a0_8, .bool a0_9, .bool a0_10, .bool a0_11, .bool a0_12, .bool a0_13, .bool a0_14, .bool a0_15, .int .i64 a0_16] 23 (0, 0)) (by (with_reducible repeat (first | refine blk_drewN ?_ _ | refine blk_drew ?_ | refine blk_alloc ?_ _)); exact BK333.out) hb); have n1_ := Aside0.mk (below_step (by repeat (first | (with_reducible first | exact HB.out | apply below_alloc | apply pw_below_drewN | apply below_drew1 | refine below_set ?_ GE333.out) | exact HB.out)) hb); have n2_ := Aside0.mk (hbox); have n3_ := Aside0.mk ((by rw [hg]; exact (below_size (by repeat (first | (with_reducible first | exact HB.out | apply below_alloc | apply pw_below_drewN | apply below_drew1 | refine below_set ?_ GE333.out) | exact HB.out))) : w.heap.size ≤ gb340)); have n4_ := Aside0.mk ((by rw [hg]; exact (below_size (by repeat (first | (with_reducible first | exact HB.out | apply below_alloc | apply pw_below_drewN | apply below_drew1 | refine below_set ?_ GE333.out) | exact HB.out))) : w.heap.size ≤ gb340)); have n5_ := Aside0.mk ((by rw [hg]; exact Nat.ne_of_lt (blk_lt (g := gb333) (o := .cells #[.bool a0_0, .bool true, .int .i64 a0_2, .bool a0_3, .bool a0_4, .bool a0_5, .bool a0_6, .int .i64 a0_7, .bool a0_8, .bool a0_9, .bool a0_10, .bool a0_11, .bool a0_12, .bool a0_13, .bool a0_14, .bool a0_15, .int .i64 a0_16] 23 (0, 0)) (by (with_reducible repeat (first | refine blk_drewN ?_ _ | refine blk_drew ?_ | refine blk_alloc ?_ _)); exact BK333.out)) : gb333 ≠ gb340)); have n6_ := Aside0.mk ((by rw [hg]; exact Nat.ne_of_gt (blk_lt (g := gb333) (o := .cells #[.bool a0_0, .bool true, .int .i64 a0_2, .bool a0_3, .bool a0_4, .bool a0_5, .bool a0_6, .int .i64 a0_7, .bool a0_8, .bool a0_9, .bool a0_10, .bool a0_11, .bool a0_12, .bool a0_13, .bool a0_14, .bool a0_15, .int .i64 a0_16] 23 (0, 0)) (by (with_reducible repeat (first | refine blk_drewN ?_ _ | refine blk_drew ?_ | refine blk_alloc ?_ _)); exact BK333.out)) : gb340 ≠ gb333)); clear BK333; clear HB; have BK333 := n0_; have HB := n1_; have BK340 := n2_; have GW340 := n3_; have GE340 := n4_; have NB333_340 := n5_; have NB340_333 := n6_; clear n0_ n1_ n2_ n3_ n4_ n5_ n6_; clear hb hbox hg; have hnb10 := NB340_333.out; have hnc10 := NB333_340.out; have hcz11_0 : w9.cell? ⟨gb340, 0, none⟩ = some (.int .i64 0) := (blk_cell BK340.out 0).trans rfl; have hcz11_1 : w9.cell? ⟨gb340, 1, none⟩ = some (.int .i64 0) := (blk_cell BK340.out 1).trans rfl; have hcz11_2 : w9.cell? ⟨gb340, 2, none⟩ = some (.int .i64 0) := (blk_cell BK340.out 2).trans rfl; have hcz11_3 : w9.cell? ⟨gb340, 3, none⟩ = some (.int .i64 0) := (blk_cell BK340.out 3).trans rfl; have hcz11_4 : w9.cell? ⟨gb340, 4, none⟩ = some (.int .i64 0) := (blk_cell BK340.out 4).trans rfl; have hfz11_0 := blk_frozen BK340.out 0; have hfz11_1 := blk_frozen BK340.out 1; have hfz11_2 := blk_frozen BK340.out 2; have hfz11_3 := blk_frozen BK340.out 3; have hfz11_4 := blk_frozen BK340.out 4; have hcz12_0 : w9.cell? ⟨gb333, 0, none⟩ = some (.bool a0_0) := (blk_cell BK333.out 0).trans rfl; have hcz12_1 : w9.cell? ⟨gb333, 1, none⟩ = some (.bool true) := (blk_cell BK333.out 1).trans rfl; have hcz12_2 : w9.cell? ⟨gb333, 2, none⟩ = some (.int .i64 a0_2) := (blk_cell BK333.out 2).trans rfl; have hcz12_3 : w9.cell? ⟨gb333, 3, none⟩ = some (.bool a0_3) := (blk_cell BK333.out 3).trans rfl; have hcz12_4 : w9.cell? ⟨gb333, 4, none⟩ = some (.bool a0_4) := (blk_cell BK333.out 4).trans rfl; have hcz12_5 : w9.cell? ⟨gb333, 5, none⟩ = some (.bool a0_5) := (blk_cell BK333.out 5).trans rfl; have hcz12_6 : w9.cell? ⟨gb333, 6, none⟩ = some (.bool a0_6) := (blk_cell BK333.out 6).trans rfl; have hcz12_7 : w9.cell? ⟨gb333, 7, none⟩ = some (.int .i64 a0_7) := (blk_cell BK333.out 7).trans rfl; have hcz12_8 : w9.cell? ⟨gb333, 8, none⟩ = some (.bool a0_8) := (blk_cell BK333.out 8).trans rfl; have hcz12_9 : w9.cell? ⟨gb333, 9, none⟩ = some (.bool a0_9) := (blk_cell BK333.out 9).trans rfl; have hcz12_10 : w9.cell? ⟨gb333, 10, none⟩ = some (.bool a0_10) := (blk_cell BK333.out 10).trans rfl; have hcz12_11 : w9.cell? ⟨gb333, 11, none⟩ = some (.bool a0_11) := (blk_cell BK333.out 11).trans rfl; have hcz12_12 : w9.cell? ⟨gb333, 12, none⟩ = some (.bool a0_12) := (blk_cell BK333.out 12).trans rfl; have hcz12_13 : w9.cell? ⟨gb333, 13, none⟩ = some (.bool a0_13) := (blk_cell BK333.out 13).trans rfl; have hcz12_14 : w9.cell? ⟨gb333, 14, none⟩ = some (.bool a0_14) := (blk_cell BK333.out 14).trans rfl; have hcz12_15 : w9.cell? ⟨gb333, 15, none⟩ = some (.bool a0_15) := (blk_cell BK333.out 15).trans rfl; have hcz12_16 : w9.cell? ⟨gb333, 16, none⟩ = some (.int .i64 a0_16) := (blk_cell BK333.out 16).trans rfl; have hfz12_0 := blk_frozen BK333.out 0; have hfz12_1 := blk_frozen BK333.out 1; have hfz12_2 := blk_frozen BK333.out 2; have hfz12_3 := blk_frozen BK333.out 3; have hfz12_4 := blk_frozen BK333.out 4; have hfz12_5 := blk_frozen BK333.out 5; have hfz12_6 := blk_frozen BK333.out 6; have hfz12_7 := blk_frozen BK333.out 7; have hfz12_8 := blk_frozen BK333.out 8; have hfz12_9 := blk_frozen BK333.out 9; have hfz12_10 := blk_frozen BK333.out 10; have hfz12_11 := blk_frozen BK333.out 11; have hfz12_12 := blk_frozen BK333.out 12; have hfz12_13 := blk_frozen BK333.out 13; have hfz12_14 := blk_frozen BK333.out 14; have hfz12_15 := blk_frozen BK333.out 15; have hfz12_16 := blk_frozen BK333.out 16))
      (try simp only [Act.put, List.setIfInBounds_toArray, List.set_cons_zero, List.set_cons_succ])
      go_cut [18] (fun v18 wc => ∃ (kq : Nat) (x18_4 : Bool), v18 = .bool x18_4 ∧ Aside0 (estoverslaw26_FaultplanRefuses.j0 kq 0 x18_4 a0_0 true a0_2 a0_3 a0_4 a0_5 a0_6 a0_7 a0_8 a0_9 a0_10 a0_11 a0_12 a0_13 a0_14 a0_15 a0_16 t334 t335 t336 t337 t338 = some r) ∧ Aside0 (kq ≤ k) ∧ Aside0 (wc.heap[gb333]? = some (.cells #[.bool a0_0, .bool true, .int .i64 a0_2, .bool a0_3, .bool a0_4, .bool a0_5, .bool a0_6, .int .i64 a0_7, .bool a0_8, .bool a0_9, .bool a0_10, .bool a0_11, .bool a0_12, .bool a0_13, .bool a0_14, .bool a0_15, .int .i64 a0_16] 23 (0, 0))) ∧ Aside0 (wc.heap[gb340]? = some (.cells #[.int .i64 t334, .int .i64 t335, .int .i64 t336, .int .i64 t337, .int .i64 t338] 28 (0, 0))) ∧ Aside0 (Below w.heap.size w wc))
      case first =>
        have H := HC5.out
        clear HC5
        by_cases c13 : a0_0 = true
        · subst c13
          have H1 : (estoverslaw26_FaultplanRefuses.j0 k 0 (a0_2 == 1) true true a0_2 a0_3 a0_4 a0_5 a0_6 a0_7 a0_8 a0_9 a0_10 a0_11 a0_12 a0_13 a0_14 a0_15 a0_16 t334 t335 t336 t337 t338) = some r := by rw [if_pos rfl] at H; exact H
          clear H
          have H := H1
          clear H1
          have H' := Aside0.mk H
          clear H
          have hnb14 := NB333_340.out
          have hnc14 := NB340_333.out
          have hcz15_0 : w9.cell? ⟨gb333, 0, none⟩ = some (.bool true) := (blk_cell BK333.out 0).trans rfl
          have hcz15_1 : w9.cell? ⟨gb333, 1, none⟩ = some (.bool true) := (blk_cell BK333.out 1).trans rfl
          have hcz15_2 : w9.cell? ⟨gb333, 2, none⟩ = some (.int .i64 a0_2) := (blk_cell BK333.out 2).trans rfl
          have hcz15_3 : w9.cell? ⟨gb333, 3, none⟩ = some (.bool a0_3) := (blk_cell BK333.out 3).trans rfl
          have hcz15_4 : w9.cell? ⟨gb333, 4, none⟩ = some (.bool a0_4) := (blk_cell BK333.out 4).trans rfl
          have hcz15_5 : w9.cell? ⟨gb333, 5, none⟩ = some (.bool a0_5) := (blk_cell BK333.out 5).trans rfl
          have hcz15_6 : w9.cell? ⟨gb333, 6, none⟩ = some (.bool a0_6) := (blk_cell BK333.out 6).trans rfl
          have hcz15_7 : w9.cell? ⟨gb333, 7, none⟩ = some (.int .i64 a0_7) := (blk_cell BK333.out 7).trans rfl
          have hcz15_8 : w9.cell? ⟨gb333, 8, none⟩ = some (.bool a0_8) := (blk_cell BK333.out 8).trans rfl
          have hcz15_9 : w9.cell? ⟨gb333, 9, none⟩ = some (.bool a0_9) := (blk_cell BK333.out 9).trans rfl
          have hcz15_10 : w9.cell? ⟨gb333, 10, none⟩ = some (.bool a0_10) := (blk_cell BK333.out 10).trans rfl
          have hcz15_11 : w9.cell? ⟨gb333, 11, none⟩ = some (.bool a0_11) := (blk_cell BK333.out 11).trans rfl
          have hcz15_12 : w9.cell? ⟨gb333, 12, none⟩ = some (.bool a0_12) := (blk_cell BK333.out 12).trans rfl
          have hcz15_13 : w9.cell? ⟨gb333, 13, none⟩ = some (.bool a0_13) := (blk_cell BK333.out 13).trans rfl
          have hcz15_14 : w9.cell? ⟨gb333, 14, none⟩ = some (.bool a0_14) := (blk_cell BK333.out 14).trans rfl
          have hcz15_15 : w9.cell? ⟨gb333, 15, none⟩ = some (.bool a0_15) := (blk_cell BK333.out 15).trans rfl
          have hcz15_16 : w9.cell? ⟨gb333, 16, none⟩ = some (.int .i64 a0_16) := (blk_cell BK333.out 16).trans rfl
          have hfz15_0 := blk_frozen BK333.out 0
          have hfz15_1 := blk_frozen BK333.out 1
          have hfz15_2 := blk_frozen BK333.out 2
          have hfz15_3 := blk_frozen BK333.out 3
          have hfz15_4 := blk_frozen BK333.out 4
          have hfz15_5 := blk_frozen BK333.out 5
          have hfz15_6 := blk_frozen BK333.out 6
          have hfz15_7 := blk_frozen BK333.out 7
          have hfz15_8 := blk_frozen BK333.out 8
          have hfz15_9 := blk_frozen BK333.out 9
          have hfz15_10 := blk_frozen BK333.out 10
          have hfz15_11 := blk_frozen BK333.out 11
          have hfz15_12 := blk_frozen BK333.out 12
          have hfz15_13 := blk_frozen BK333.out 13
          have hfz15_14 := blk_frozen BK333.out 14
          have hfz15_15 := blk_frozen BK333.out 15
          have hfz15_16 := blk_frozen BK333.out 16
          go_wp2
          go_meet
          case rel => exact ⟨_, ((a0_2 == 1)), (by first | rfl | (simp; done) | (simp [*]; done)), H', ⟨by first | omega | exact Nat.le_refl _⟩, ⟨by (with_reducible repeat (first | refine blk_drewN ?_ _ | refine blk_drew ?_ | refine blk_alloc ?_ _)); refine blk_far ?_ NB333_340.out _; (with_reducible repeat (first | refine blk_drewN ?_ _ | refine blk_drew ?_ | refine blk_alloc ?_ _)); refine blk_far ?_ NB333_340.out _; (with_reducible repeat (first | refine blk_drewN ?_ _ | refine blk_drew ?_ | refine blk_alloc ?_ _)); refine blk_far ?_ NB333_340.out _; (with_reducible repeat (first | refine blk_drewN ?_ _ | refine blk_drew ?_ | refine blk_alloc ?_ _)); refine blk_far ?_ NB333_340.out _; (with_reducible repeat (first | refine blk_drewN ?_ _ | refine blk_drew ?_ | refine blk_alloc ?_ _)); refine blk_far ?_ NB333_340.out _; (with_reducible repeat (first | refine blk_drewN ?_ _ | refine blk_drew ?_ | refine blk_alloc ?_ _)); exact BK333.out⟩, ⟨by (with_reducible repeat (first | refine blk_drewN ?_ _ | refine blk_drew ?_ | refine blk_alloc ?_ _)); refine blk_put (cs := #[.int .i64 t334, .int .i64 t335, .int .i64 t336, .int .i64 t337, .int .i64 0]) ?_ 4 _ rfl; (with_reducible repeat (first | refine blk_drewN ?_ _ | refine blk_drew ?_ | refine blk_alloc ?_ _)); refine blk_put (cs := #[.int .i64 t334, .int .i64 t335, .int .i64 t336, .int .i64 0, .int .i64 0]) ?_ 3 _ rfl; (with_reducible repeat (first | refine blk_drewN ?_ _ | refine blk_drew ?_ | refine blk_alloc ?_ _)); refine blk_put (cs := #[.int .i64 t334, .int .i64 t335, .int .i64 0, .int .i64 0, .int .i64 0]) ?_ 2 _ rfl; (with_reducible repeat (first | refine blk_drewN ?_ _ | refine blk_drew ?_ | refine blk_alloc ?_ _)); refine blk_put (cs := #[.int .i64 t334, .int .i64 0, .int .i64 0, .int .i64 0, .int .i64 0]) ?_ 1 _ rfl; (with_reducible repeat (first | refine blk_drewN ?_ _ | refine blk_drew ?_ | refine blk_alloc ?_ _)); refine blk_put (cs := #[.int .i64 0, .int .i64 0, .int .i64 0, .int .i64 0, .int .i64 0]) ?_ 0 _ rfl; (with_reducible repeat (first | refine blk_drewN ?_ _ | refine blk_drew ?_ | refine blk_alloc ?_ _)); exact BK340.out⟩, ⟨by repeat (first | (with_reducible first | exact HB.out | apply below_alloc | apply pw_below_drewN | apply below_drew1 | refine below_set ?_ GE333.out | refine below_set ?_ GE340.out) | exact HB.out)⟩⟩
        · replace c13 := Bool.eq_false_iff.mpr c13
          subst c13
          have H1 : (estoverslaw26_FaultplanRefuses.j0 k 0 false false true a0_2 a0_3 a0_4 a0_5 a0_6 a0_7 a0_8 a0_9 a0_10 a0_11 a0_12 a0_13 a0_14 a0_15 a0_16 t334 t335 t336 t337 t338) = some r := by rw [if_neg (show ¬ (false = true) by decide)] at H; exact H
          clear H
          have H := H1
          clear H1
          have H' := Aside0.mk H
          clear H
          have hnb16 := NB333_340.out
          have hnc16 := NB340_333.out
          have hcz17_0 : w9.cell? ⟨gb333, 0, none⟩ = some (.bool false) := (blk_cell BK333.out 0).trans rfl
          have hcz17_1 : w9.cell? ⟨gb333, 1, none⟩ = some (.bool true) := (blk_cell BK333.out 1).trans rfl
          have hcz17_2 : w9.cell? ⟨gb333, 2, none⟩ = some (.int .i64 a0_2) := (blk_cell BK333.out 2).trans rfl
          have hcz17_3 : w9.cell? ⟨gb333, 3, none⟩ = some (.bool a0_3) := (blk_cell BK333.out 3).trans rfl
          have hcz17_4 : w9.cell? ⟨gb333, 4, none⟩ = some (.bool a0_4) := (blk_cell BK333.out 4).trans rfl
          have hcz17_5 : w9.cell? ⟨gb333, 5, none⟩ = some (.bool a0_5) := (blk_cell BK333.out 5).trans rfl
          have hcz17_6 : w9.cell? ⟨gb333, 6, none⟩ = some (.bool a0_6) := (blk_cell BK333.out 6).trans rfl
          have hcz17_7 : w9.cell? ⟨gb333, 7, none⟩ = some (.int .i64 a0_7) := (blk_cell BK333.out 7).trans rfl
          have hcz17_8 : w9.cell? ⟨gb333, 8, none⟩ = some (.bool a0_8) := (blk_cell BK333.out 8).trans rfl
          have hcz17_9 : w9.cell? ⟨gb333, 9, none⟩ = some (.bool a0_9) := (blk_cell BK333.out 9).trans rfl
          have hcz17_10 : w9.cell? ⟨gb333, 10, none⟩ = some (.bool a0_10) := (blk_cell BK333.out 10).trans rfl
          have hcz17_11 : w9.cell? ⟨gb333, 11, none⟩ = some (.bool a0_11) := (blk_cell BK333.out 11).trans rfl
          have hcz17_12 : w9.cell? ⟨gb333, 12, none⟩ = some (.bool a0_12) := (blk_cell BK333.out 12).trans rfl
          have hcz17_13 : w9.cell? ⟨gb333, 13, none⟩ = some (.bool a0_13) := (blk_cell BK333.out 13).trans rfl
          have hcz17_14 : w9.cell? ⟨gb333, 14, none⟩ = some (.bool a0_14) := (blk_cell BK333.out 14).trans rfl
          have hcz17_15 : w9.cell? ⟨gb333, 15, none⟩ = some (.bool a0_15) := (blk_cell BK333.out 15).trans rfl
          have hcz17_16 : w9.cell? ⟨gb333, 16, none⟩ = some (.int .i64 a0_16) := (blk_cell BK333.out 16).trans rfl
          have hfz17_0 := blk_frozen BK333.out 0
          have hfz17_1 := blk_frozen BK333.out 1
          have hfz17_2 := blk_frozen BK333.out 2
          have hfz17_3 := blk_frozen BK333.out 3
          have hfz17_4 := blk_frozen BK333.out 4
          have hfz17_5 := blk_frozen BK333.out 5
          have hfz17_6 := blk_frozen BK333.out 6
          have hfz17_7 := blk_frozen BK333.out 7
          have hfz17_8 := blk_frozen BK333.out 8
          have hfz17_9 := blk_frozen BK333.out 9
          have hfz17_10 := blk_frozen BK333.out 10
          have hfz17_11 := blk_frozen BK333.out 11
          have hfz17_12 := blk_frozen BK333.out 12
          have hfz17_13 := blk_frozen BK333.out 13
          have hfz17_14 := blk_frozen BK333.out 14
          have hfz17_15 := blk_frozen BK333.out 15
          have hfz17_16 := blk_frozen BK333.out 16
          go_wp2
          go_meet
          case rel => exact ⟨_, (false), (by first | rfl | (simp; done) | (simp [*]; done)), H', ⟨by first | omega | exact Nat.le_refl _⟩, ⟨by (with_reducible repeat (first | refine blk_drewN ?_ _ | refine blk_drew ?_ | refine blk_alloc ?_ _)); refine blk_far ?_ NB333_340.out _; (with_reducible repeat (first | refine blk_drewN ?_ _ | refine blk_drew ?_ | refine blk_alloc ?_ _)); refine blk_far ?_ NB333_340.out _; (with_reducible repeat (first | refine blk_drewN ?_ _ | refine blk_drew ?_ | refine blk_alloc ?_ _)); refine blk_far ?_ NB333_340.out _; (with_reducible repeat (first | refine blk_drewN ?_ _ | refine blk_drew ?_ | refine blk_alloc ?_ _)); refine blk_far ?_ NB333_340.out _; (with_reducible repeat (first | refine blk_drewN ?_ _ | refine blk_drew ?_ | refine blk_alloc ?_ _)); refine blk_far ?_ NB333_340.out _; (with_reducible repeat (first | refine blk_drewN ?_ _ | refine blk_drew ?_ | refine blk_alloc ?_ _)); exact BK333.out⟩, ⟨by (with_reducible repeat (first | refine blk_drewN ?_ _ | refine blk_drew ?_ | refine blk_alloc ?_ _)); refine blk_put (cs := #[.int .i64 t334, .int .i64 t335, .int .i64 t336, .int .i64 t337, .int .i64 0]) ?_ 4 _ rfl; (with_reducible repeat (first | refine blk_drewN ?_ _ | refine blk_drew ?_ | refine blk_alloc ?_ _)); refine blk_put (cs := #[.int .i64 t334, .int .i64 t335, .int .i64 t336, .int .i64 0, .int .i64 0]) ?_ 3 _ rfl; (with_reducible repeat (first | refine blk_drewN ?_ _ | refine blk_drew ?_ | refine blk_alloc ?_ _)); refine blk_put (cs := #[.int .i64 t334, .int .i64 t335, .int .i64 0, .int .i64 0, .int .i64 0]) ?_ 2 _ rfl; (with_reducible repeat (first | refine blk_drewN ?_ _ | refine blk_drew ?_ | refine blk_alloc ?_ _)); refine blk_put (cs := #[.int .i64 t334, .int .i64 0, .int .i64 0, .int .i64 0, .int .i64 0]) ?_ 1 _ rfl; (with_reducible repeat (first | refine blk_drewN ?_ _ | refine blk_drew ?_ | refine blk_alloc ?_ _)); refine blk_put (cs := #[.int .i64 0, .int .i64 0, .int .i64 0, .int .i64 0, .int .i64 0]) ?_ 0 _ rfl; (with_reducible repeat (first | refine blk_drewN ?_ _ | refine blk_drew ?_ | refine blk_alloc ?_ _)); exact BK340.out⟩, ⟨by repeat (first | (with_reducible first | exact HB.out | apply below_alloc | apply pw_below_drewN | apply below_drew1 | refine below_set ?_ GE333.out | refine below_set ?_ GE340.out) | exact HB.out)⟩⟩
      case rest =>
        clear HC5
        try clear c1
        try clear p2
        try clear c3
        try clear c3b0
        try clear c3b1
        try clear c4
        try clear c8
        try clear c10
        try clear c13
        try clear c14
        try clear c16
        try clear hcz11_0
        try clear hcz11_1
        try clear hcz11_2
        try clear hcz11_3
        try clear hcz11_4
        try clear hcz12_0
        try clear hcz12_1
        try clear hcz12_10
        try clear hcz12_11
        try clear hcz12_12
        try clear hcz12_13
        try clear hcz12_14
        try clear hcz12_15
        try clear hcz12_16
        try clear hcz12_2
        try clear hcz12_3
        try clear hcz12_4
        try clear hcz12_5
        try clear hcz12_6
        try clear hcz12_7
        try clear hcz12_8
        try clear hcz12_9
        try clear hcz15_0
        try clear hcz15_1
        try clear hcz15_10
        try clear hcz15_11
        try clear hcz15_12
        try clear hcz15_13
        try clear hcz15_14
        try clear hcz15_15
        try clear hcz15_16
        try clear hcz15_2
        try clear hcz15_3
        try clear hcz15_4
        try clear hcz15_5
        try clear hcz15_6
        try clear hcz15_7
        try clear hcz15_8
        try clear hcz15_9
        try clear hcz17_0
        try clear hcz17_1
        try clear hcz17_10
        try clear hcz17_11
        try clear hcz17_12
        try clear hcz17_13
        try clear hcz17_14
        try clear hcz17_15
        try clear hcz17_16
        try clear hcz17_2
        try clear hcz17_3
        try clear hcz17_4
        try clear hcz17_5
        try clear hcz17_6
        try clear hcz17_7
        try clear hcz17_8
        try clear hcz17_9
        try clear hcz7_0
        try clear hcz7_1
        try clear hcz7_10
        try clear hcz7_11
        try clear hcz7_12
        try clear hcz7_13
        try clear hcz7_14
        try clear hcz7_15
        try clear hcz7_16
        try clear hcz7_2
        try clear hcz7_3
        try clear hcz7_4
        try clear hcz7_5
        try clear hcz7_6
        try clear hcz7_7
        try clear hcz7_8
        try clear hcz7_9
        try clear hfz11_0
        try clear hfz11_1
        try clear hfz11_2
        try clear hfz11_3
        try clear hfz11_4
        try clear hfz12_0
        try clear hfz12_1
        try clear hfz12_10
        try clear hfz12_11
        try clear hfz12_12
        try clear hfz12_13
        try clear hfz12_14
        try clear hfz12_15
        try clear hfz12_16
        try clear hfz12_2
        try clear hfz12_3
        try clear hfz12_4
        try clear hfz12_5
        try clear hfz12_6
        try clear hfz12_7
        try clear hfz12_8
        try clear hfz12_9
        try clear hfz15_0
        try clear hfz15_1
        try clear hfz15_10
        try clear hfz15_11
        try clear hfz15_12
        try clear hfz15_13
        try clear hfz15_14
        try clear hfz15_15
        try clear hfz15_16
        try clear hfz15_2
        try clear hfz15_3
        try clear hfz15_4
        try clear hfz15_5
        try clear hfz15_6
        try clear hfz15_7
        try clear hfz15_8
        try clear hfz15_9
        try clear hfz17_0
        try clear hfz17_1
        try clear hfz17_10
        try clear hfz17_11
        try clear hfz17_12
        try clear hfz17_13
        try clear hfz17_14
        try clear hfz17_15
        try clear hfz17_16
        try clear hfz17_2
        try clear hfz17_3
        try clear hfz17_4
        try clear hfz17_5
        try clear hfz17_6
        try clear hfz17_7
        try clear hfz17_8
        try clear hfz17_9
        try clear hfz7_0
        try clear hfz7_1
        try clear hfz7_10
        try clear hfz7_11
        try clear hfz7_12
        try clear hfz7_13
        try clear hfz7_14
        try clear hfz7_15
        try clear hfz7_16
        try clear hfz7_2
        try clear hfz7_3
        try clear hfz7_4
        try clear hfz7_5
        try clear hfz7_6
        try clear hfz7_7
        try clear hfz7_8
        try clear hfz7_9
        obtain ⟨kq, x18_4, rfl, HA, HJ4, BK333, BK340, HB⟩ := hcut
        cases kq with
        | zero => exact absurd HA.out (by simp [estoverslaw26_FaultplanRefuses.j0])
        | succ kj4 =>
          have H := HA.out
          clear HA
          simp only [estoverslaw26_FaultplanRefuses.j0] at H
          by_cases c18 : x18_4 = true
          · subst c18
            have H1 : (if t335 = 12 then ((estoverslaw26_awake.f kj4).bind fun t342 => (some t342)) else (some false)) = some r := by rw [if_pos rfl] at H; exact H
            clear H
            have H := H1
            clear H1
            by_cases c19 : t335 = 12
            · rw [if_pos c19] at H
              have c19b0 : (t335 == 12) = true := beq_iff_eq.mpr c19
              have c19b1 : (t335 != 12) = false := bne_eq_false_iff_eq.mpr c19
              clear c19
              replace H := Option.bind_eq_some_iff.mp H
              obtain ⟨t342, A200, H⟩ := H
              replace H : (some t342) = some r := H
              have A20 := Aside0.mk A200
              clear A200
              obtain rfl := Option.some.inj H
              have hnb21 := NB340_333.out
              have hnc21 := NB333_340.out
              have hcz22_0 : wc.cell? ⟨gb340, 0, none⟩ = some (.int .i64 t334) := (blk_cell BK340.out 0).trans rfl
              have hcz22_1 : wc.cell? ⟨gb340, 1, none⟩ = some (.int .i64 t335) := (blk_cell BK340.out 1).trans rfl
              have hcz22_2 : wc.cell? ⟨gb340, 2, none⟩ = some (.int .i64 t336) := (blk_cell BK340.out 2).trans rfl
              have hcz22_3 : wc.cell? ⟨gb340, 3, none⟩ = some (.int .i64 t337) := (blk_cell BK340.out 3).trans rfl
              have hcz22_4 : wc.cell? ⟨gb340, 4, none⟩ = some (.int .i64 t338) := (blk_cell BK340.out 4).trans rfl
              have hfz22_0 := blk_frozen BK340.out 0
              have hfz22_1 := blk_frozen BK340.out 1
              have hfz22_2 := blk_frozen BK340.out 2
              have hfz22_3 := blk_frozen BK340.out 3
              have hfz22_4 := blk_frozen BK340.out 4
              go_wp2_with (first | (go_at_call 12; (with_reducible refine (estoverslaw26_awake.calls kj4  t342 _ A20.out).mono ?_); rintro e w23 ⟨rfl, hb⟩; have n0_ := Aside0.mk (blk_below (g := gb333) (o := .cells #[.bool a0_0, .bool true, .int .i64 a0_2, .bool a0_3, .bool a0_4, .bool a0_5, .bool a0_6, .int .i64 a0_7, .bool a0_8, .bool a0_9, .bool a0_10, .bool a0_11, .bool a0_12, .bool a0_13, .bool a0_14, .bool a0_15, .int .i64 a0_16] 23 (0, 0)) (by (with_reducible repeat (first | refine blk_drewN ?_ _ | refine blk_drew ?_ | refine blk_alloc ?_ _)); exact BK333.out) hb); have n1_ := Aside0.mk (blk_below (g := gb340) (o := .cells #[.int .i64 t334, .int .i64 t335, .int .i64 t336, .int .i64 t337, .int .i64 t338] 28 (0, 0)) (by (with_reducible repeat (first | refine blk_drewN ?_ _ | refine blk_drew ?_ | refine blk_alloc ?_ _)); exact BK340.out) hb); have n2_ := Aside0.mk (below_step (by repeat (first | (with_reducible first | exact HB.out | apply below_alloc | apply pw_below_drewN | apply below_drew1 | refine below_set ?_ GE333.out | refine below_set ?_ GE340.out) | exact HB.out)) hb); clear BK333; clear BK340; clear HB; have BK333 := n0_; have BK340 := n1_; have HB := n2_; clear n0_ n1_ n2_; (try clear hb); (try clear hb2); (try clear hk); (try clear hi)))
              go_ret
              exact ⟨by first | rfl | (simp [errW_none, errW_some] <;> rfl) | (simp [*, errW_none, errW_some] <;> rfl), by repeat (first | (with_reducible first | exact HB.out | apply below_alloc | apply pw_below_drewN | apply below_drew1 | refine below_set ?_ GE333.out | refine below_set ?_ GE340.out) | exact HB.out)⟩
            · rw [if_neg c19] at H
              have c19b0 : (t335 == 12) = false := beq_eq_false_iff_ne.mpr c19
              have c19b1 : (t335 != 12) = true := bne_iff_ne.mpr c19
              obtain rfl := Option.some.inj H
              have hnb24 := NB340_333.out
              have hnc24 := NB333_340.out
              have hcz25_0 : wc.cell? ⟨gb340, 0, none⟩ = some (.int .i64 t334) := (blk_cell BK340.out 0).trans rfl
              have hcz25_1 : wc.cell? ⟨gb340, 1, none⟩ = some (.int .i64 t335) := (blk_cell BK340.out 1).trans rfl
              have hcz25_2 : wc.cell? ⟨gb340, 2, none⟩ = some (.int .i64 t336) := (blk_cell BK340.out 2).trans rfl
              have hcz25_3 : wc.cell? ⟨gb340, 3, none⟩ = some (.int .i64 t337) := (blk_cell BK340.out 3).trans rfl
              have hcz25_4 : wc.cell? ⟨gb340, 4, none⟩ = some (.int .i64 t338) := (blk_cell BK340.out 4).trans rfl
              have hfz25_0 := blk_frozen BK340.out 0
              have hfz25_1 := blk_frozen BK340.out 1
              have hfz25_2 := blk_frozen BK340.out 2
              have hfz25_3 := blk_frozen BK340.out 3
              have hfz25_4 := blk_frozen BK340.out 4
              go_wp2
              go_ret
              exact ⟨by first | rfl | (simp [errW_none, errW_some] <;> rfl) | (simp [*, errW_none, errW_some] <;> rfl), by repeat (first | (with_reducible first | exact HB.out | apply below_alloc | apply pw_below_drewN | apply below_drew1 | refine below_set ?_ GE333.out | refine below_set ?_ GE340.out) | exact HB.out)⟩
          · replace c18 := Bool.eq_false_iff.mpr c18
            subst c18
            have H1 : (if a0_5 = true then (if a0_7 = 2 then (if t335 = 0 then ((estoverslaw26_awake.f kj4).bind fun t343 => (some t343)) else (some false)) else (if a0_7 = 0 then (if t335 = 14 then ((estoverslaw26_awake.f kj4).bind fun t344 => (some t344)) else (some false)) else (if a0_10 = true then (if t335 = 0 then ((estoverslaw26_awake.f kj4).bind fun t345 => (some t345)) else (some false)) else (if t335 = 14 then ((estoverslaw26_awake.f kj4).bind fun t346 => (some t346)) else (some false))))) else (if t335 = 0 then ((estoverslaw26_awake.f kj4).bind fun t347 => (some t347)) else (some false))) = some r := by rw [if_neg (show ¬ (false = true) by decide)] at H; exact H
            clear H
            have H := H1
            clear H1
            by_cases c26 : a0_5 = true
            · subst c26
              have H1 : (if a0_7 = 2 then (if t335 = 0 then ((estoverslaw26_awake.f kj4).bind fun t343 => (some t343)) else (some false)) else (if a0_7 = 0 then (if t335 = 14 then ((estoverslaw26_awake.f kj4).bind fun t344 => (some t344)) else (some false)) else (if a0_10 = true then (if t335 = 0 then ((estoverslaw26_awake.f kj4).bind fun t345 => (some t345)) else (some false)) else (if t335 = 14 then ((estoverslaw26_awake.f kj4).bind fun t346 => (some t346)) else (some false))))) = some r := by rw [if_pos rfl] at H; exact H
              clear H
              have H := H1
              clear H1
              by_cases c27 : a0_7 = 2
              · rw [if_pos c27] at H
                have c27b0 : (a0_7 == 2) = true := beq_iff_eq.mpr c27
                have c27b1 : (a0_7 != 2) = false := bne_eq_false_iff_eq.mpr c27
                clear c27
                by_cases c28 : t335 = 0
                · rw [if_pos c28] at H
                  have c28b0 : (t335 == 0) = true := beq_iff_eq.mpr c28
                  have c28b1 : (t335 != 0) = false := bne_eq_false_iff_eq.mpr c28
                  clear c28
                  replace H := Option.bind_eq_some_iff.mp H
                  obtain ⟨t343, A290, H⟩ := H
                  replace H : (some t343) = some r := H
                  have A29 := Aside0.mk A290
                  clear A290
                  obtain rfl := Option.some.inj H
                  have hnb30 := NB333_340.out
                  have hnc30 := NB340_333.out
                  have hcz31_0 : wc.cell? ⟨gb333, 0, none⟩ = some (.bool a0_0) := (blk_cell BK333.out 0).trans rfl
                  have hcz31_1 : wc.cell? ⟨gb333, 1, none⟩ = some (.bool true) := (blk_cell BK333.out 1).trans rfl
                  have hcz31_2 : wc.cell? ⟨gb333, 2, none⟩ = some (.int .i64 a0_2) := (blk_cell BK333.out 2).trans rfl
                  have hcz31_3 : wc.cell? ⟨gb333, 3, none⟩ = some (.bool a0_3) := (blk_cell BK333.out 3).trans rfl
                  have hcz31_4 : wc.cell? ⟨gb333, 4, none⟩ = some (.bool a0_4) := (blk_cell BK333.out 4).trans rfl
                  have hcz31_5 : wc.cell? ⟨gb333, 5, none⟩ = some (.bool true) := (blk_cell BK333.out 5).trans rfl
                  have hcz31_6 : wc.cell? ⟨gb333, 6, none⟩ = some (.bool a0_6) := (blk_cell BK333.out 6).trans rfl
                  have hcz31_7 : wc.cell? ⟨gb333, 7, none⟩ = some (.int .i64 a0_7) := (blk_cell BK333.out 7).trans rfl
                  have hcz31_8 : wc.cell? ⟨gb333, 8, none⟩ = some (.bool a0_8) := (blk_cell BK333.out 8).trans rfl
                  have hcz31_9 : wc.cell? ⟨gb333, 9, none⟩ = some (.bool a0_9) := (blk_cell BK333.out 9).trans rfl
                  have hcz31_10 : wc.cell? ⟨gb333, 10, none⟩ = some (.bool a0_10) := (blk_cell BK333.out 10).trans rfl
                  have hcz31_11 : wc.cell? ⟨gb333, 11, none⟩ = some (.bool a0_11) := (blk_cell BK333.out 11).trans rfl
                  have hcz31_12 : wc.cell? ⟨gb333, 12, none⟩ = some (.bool a0_12) := (blk_cell BK333.out 12).trans rfl
                  have hcz31_13 : wc.cell? ⟨gb333, 13, none⟩ = some (.bool a0_13) := (blk_cell BK333.out 13).trans rfl
                  have hcz31_14 : wc.cell? ⟨gb333, 14, none⟩ = some (.bool a0_14) := (blk_cell BK333.out 14).trans rfl
                  have hcz31_15 : wc.cell? ⟨gb333, 15, none⟩ = some (.bool a0_15) := (blk_cell BK333.out 15).trans rfl
                  have hcz31_16 : wc.cell? ⟨gb333, 16, none⟩ = some (.int .i64 a0_16) := (blk_cell BK333.out 16).trans rfl
                  have hfz31_0 := blk_frozen BK333.out 0
                  have hfz31_1 := blk_frozen BK333.out 1
                  have hfz31_2 := blk_frozen BK333.out 2
                  have hfz31_3 := blk_frozen BK333.out 3
                  have hfz31_4 := blk_frozen BK333.out 4
                  have hfz31_5 := blk_frozen BK333.out 5
                  have hfz31_6 := blk_frozen BK333.out 6
                  have hfz31_7 := blk_frozen BK333.out 7
                  have hfz31_8 := blk_frozen BK333.out 8
                  have hfz31_9 := blk_frozen BK333.out 9
                  have hfz31_10 := blk_frozen BK333.out 10
                  have hfz31_11 := blk_frozen BK333.out 11
                  have hfz31_12 := blk_frozen BK333.out 12
                  have hfz31_13 := blk_frozen BK333.out 13
                  have hfz31_14 := blk_frozen BK333.out 14
                  have hfz31_15 := blk_frozen BK333.out 15
                  have hfz31_16 := blk_frozen BK333.out 16
                  have hcz32_0 : wc.cell? ⟨gb340, 0, none⟩ = some (.int .i64 t334) := (blk_cell BK340.out 0).trans rfl
                  have hcz32_1 : wc.cell? ⟨gb340, 1, none⟩ = some (.int .i64 t335) := (blk_cell BK340.out 1).trans rfl
                  have hcz32_2 : wc.cell? ⟨gb340, 2, none⟩ = some (.int .i64 t336) := (blk_cell BK340.out 2).trans rfl
                  have hcz32_3 : wc.cell? ⟨gb340, 3, none⟩ = some (.int .i64 t337) := (blk_cell BK340.out 3).trans rfl
                  have hcz32_4 : wc.cell? ⟨gb340, 4, none⟩ = some (.int .i64 t338) := (blk_cell BK340.out 4).trans rfl
                  have hfz32_0 := blk_frozen BK340.out 0
                  have hfz32_1 := blk_frozen BK340.out 1
                  have hfz32_2 := blk_frozen BK340.out 2
                  have hfz32_3 := blk_frozen BK340.out 3
                  have hfz32_4 := blk_frozen BK340.out 4
                  go_wp2_with (first | (go_at_call 12; (with_reducible refine (estoverslaw26_awake.calls kj4  t343 _ A29.out).mono ?_); rintro e w33 ⟨rfl, hb⟩; have n0_ := Aside0.mk (blk_below (g := gb333) (o := .cells #[.bool a0_0, .bool true, .int .i64 a0_2, .bool a0_3, .bool a0_4, .bool true, .bool a0_6, .int .i64 a0_7, .bool a0_8, .bool a0_9, .bool a0_10, .bool a0_11, .bool a0_12, .bool a0_13, .bool a0_14, .bool a0_15, .int .i64 a0_16] 23 (0, 0)) (by (with_reducible repeat (first | refine blk_drewN ?_ _ | refine blk_drew ?_ | refine blk_alloc ?_ _)); exact BK333.out) hb); have n1_ := Aside0.mk (blk_below (g := gb340) (o := .cells #[.int .i64 t334, .int .i64 t335, .int .i64 t336, .int .i64 t337, .int .i64 t338] 28 (0, 0)) (by (with_reducible repeat (first | refine blk_drewN ?_ _ | refine blk_drew ?_ | refine blk_alloc ?_ _)); exact BK340.out) hb); have n2_ := Aside0.mk (below_step (by repeat (first | (with_reducible first | exact HB.out | apply below_alloc | apply pw_below_drewN | apply below_drew1 | refine below_set ?_ GE333.out | refine below_set ?_ GE340.out) | exact HB.out)) hb); clear BK333; clear BK340; clear HB; have BK333 := n0_; have BK340 := n1_; have HB := n2_; clear n0_ n1_ n2_; (try clear hb); (try clear hb2); (try clear hk); (try clear hi)))
                  go_ret
                  exact ⟨by first | rfl | (simp [errW_none, errW_some] <;> rfl) | (simp [*, errW_none, errW_some] <;> rfl), by repeat (first | (with_reducible first | exact HB.out | apply below_alloc | apply pw_below_drewN | apply below_drew1 | refine below_set ?_ GE333.out | refine below_set ?_ GE340.out) | exact HB.out)⟩
                · rw [if_neg c28] at H
                  have c28b0 : (t335 == 0) = false := beq_eq_false_iff_ne.mpr c28
                  have c28b1 : (t335 != 0) = true := bne_iff_ne.mpr c28
                  obtain rfl := Option.some.inj H
                  have hnb34 := NB333_340.out
                  have hnc34 := NB340_333.out
                  have hcz35_0 : wc.cell? ⟨gb333, 0, none⟩ = some (.bool a0_0) := (blk_cell BK333.out 0).trans rfl
                  have hcz35_1 : wc.cell? ⟨gb333, 1, none⟩ = some (.bool true) := (blk_cell BK333.out 1).trans rfl
                  have hcz35_2 : wc.cell? ⟨gb333, 2, none⟩ = some (.int .i64 a0_2) := (blk_cell BK333.out 2).trans rfl
                  have hcz35_3 : wc.cell? ⟨gb333, 3, none⟩ = some (.bool a0_3) := (blk_cell BK333.out 3).trans rfl
                  have hcz35_4 : wc.cell? ⟨gb333, 4, none⟩ = some (.bool a0_4) := (blk_cell BK333.out 4).trans rfl
                  have hcz35_5 : wc.cell? ⟨gb333, 5, none⟩ = some (.bool true) := (blk_cell BK333.out 5).trans rfl
                  have hcz35_6 : wc.cell? ⟨gb333, 6, none⟩ = some (.bool a0_6) := (blk_cell BK333.out 6).trans rfl
                  have hcz35_7 : wc.cell? ⟨gb333, 7, none⟩ = some (.int .i64 a0_7) := (blk_cell BK333.out 7).trans rfl
                  have hcz35_8 : wc.cell? ⟨gb333, 8, none⟩ = some (.bool a0_8) := (blk_cell BK333.out 8).trans rfl
                  have hcz35_9 : wc.cell? ⟨gb333, 9, none⟩ = some (.bool a0_9) := (blk_cell BK333.out 9).trans rfl
                  have hcz35_10 : wc.cell? ⟨gb333, 10, none⟩ = some (.bool a0_10) := (blk_cell BK333.out 10).trans rfl
                  have hcz35_11 : wc.cell? ⟨gb333, 11, none⟩ = some (.bool a0_11) := (blk_cell BK333.out 11).trans rfl
                  have hcz35_12 : wc.cell? ⟨gb333, 12, none⟩ = some (.bool a0_12) := (blk_cell BK333.out 12).trans rfl
                  have hcz35_13 : wc.cell? ⟨gb333, 13, none⟩ = some (.bool a0_13) := (blk_cell BK333.out 13).trans rfl
                  have hcz35_14 : wc.cell? ⟨gb333, 14, none⟩ = some (.bool a0_14) := (blk_cell BK333.out 14).trans rfl
                  have hcz35_15 : wc.cell? ⟨gb333, 15, none⟩ = some (.bool a0_15) := (blk_cell BK333.out 15).trans rfl
                  have hcz35_16 : wc.cell? ⟨gb333, 16, none⟩ = some (.int .i64 a0_16) := (blk_cell BK333.out 16).trans rfl
                  have hfz35_0 := blk_frozen BK333.out 0
                  have hfz35_1 := blk_frozen BK333.out 1
                  have hfz35_2 := blk_frozen BK333.out 2
                  have hfz35_3 := blk_frozen BK333.out 3
                  have hfz35_4 := blk_frozen BK333.out 4
                  have hfz35_5 := blk_frozen BK333.out 5
                  have hfz35_6 := blk_frozen BK333.out 6
                  have hfz35_7 := blk_frozen BK333.out 7
                  have hfz35_8 := blk_frozen BK333.out 8
                  have hfz35_9 := blk_frozen BK333.out 9
                  have hfz35_10 := blk_frozen BK333.out 10
                  have hfz35_11 := blk_frozen BK333.out 11
                  have hfz35_12 := blk_frozen BK333.out 12
                  have hfz35_13 := blk_frozen BK333.out 13
                  have hfz35_14 := blk_frozen BK333.out 14
                  have hfz35_15 := blk_frozen BK333.out 15
                  have hfz35_16 := blk_frozen BK333.out 16
                  have hcz36_0 : wc.cell? ⟨gb340, 0, none⟩ = some (.int .i64 t334) := (blk_cell BK340.out 0).trans rfl
                  have hcz36_1 : wc.cell? ⟨gb340, 1, none⟩ = some (.int .i64 t335) := (blk_cell BK340.out 1).trans rfl
                  have hcz36_2 : wc.cell? ⟨gb340, 2, none⟩ = some (.int .i64 t336) := (blk_cell BK340.out 2).trans rfl
                  have hcz36_3 : wc.cell? ⟨gb340, 3, none⟩ = some (.int .i64 t337) := (blk_cell BK340.out 3).trans rfl
                  have hcz36_4 : wc.cell? ⟨gb340, 4, none⟩ = some (.int .i64 t338) := (blk_cell BK340.out 4).trans rfl
                  have hfz36_0 := blk_frozen BK340.out 0
                  have hfz36_1 := blk_frozen BK340.out 1
                  have hfz36_2 := blk_frozen BK340.out 2
                  have hfz36_3 := blk_frozen BK340.out 3
                  have hfz36_4 := blk_frozen BK340.out 4
                  go_wp2
                  go_ret
                  exact ⟨by first | rfl | (simp [errW_none, errW_some] <;> rfl) | (simp [*, errW_none, errW_some] <;> rfl), by repeat (first | (with_reducible first | exact HB.out | apply below_alloc | apply pw_below_drewN | apply below_drew1 | refine below_set ?_ GE333.out | refine below_set ?_ GE340.out) | exact HB.out)⟩
              · rw [if_neg c27] at H
                have c27b0 : (a0_7 == 2) = false := beq_eq_false_iff_ne.mpr c27
                have c27b1 : (a0_7 != 2) = true := bne_iff_ne.mpr c27
                by_cases c37 : a0_7 = 0
                · rw [if_pos c37] at H
                  have c37b0 : (a0_7 == 0) = true := beq_iff_eq.mpr c37
                  have c37b1 : (a0_7 != 0) = false := bne_eq_false_iff_eq.mpr c37
                  clear c37
                  by_cases c38 : t335 = 14
                  · rw [if_pos c38] at H
                    have c38b0 : (t335 == 14) = true := beq_iff_eq.mpr c38
                    have c38b1 : (t335 != 14) = false := bne_eq_false_iff_eq.mpr c38
                    clear c38
                    replace H := Option.bind_eq_some_iff.mp H
                    obtain ⟨t344, A390, H⟩ := H
                    replace H : (some t344) = some r := H
                    have A39 := Aside0.mk A390
                    clear A390
                    obtain rfl := Option.some.inj H
                    have hnb40 := NB333_340.out
                    have hnc40 := NB340_333.out
                    have hcz41_0 : wc.cell? ⟨gb333, 0, none⟩ = some (.bool a0_0) := (blk_cell BK333.out 0).trans rfl
                    have hcz41_1 : wc.cell? ⟨gb333, 1, none⟩ = some (.bool true) := (blk_cell BK333.out 1).trans rfl
                    have hcz41_2 : wc.cell? ⟨gb333, 2, none⟩ = some (.int .i64 a0_2) := (blk_cell BK333.out 2).trans rfl
                    have hcz41_3 : wc.cell? ⟨gb333, 3, none⟩ = some (.bool a0_3) := (blk_cell BK333.out 3).trans rfl
                    have hcz41_4 : wc.cell? ⟨gb333, 4, none⟩ = some (.bool a0_4) := (blk_cell BK333.out 4).trans rfl
                    have hcz41_5 : wc.cell? ⟨gb333, 5, none⟩ = some (.bool true) := (blk_cell BK333.out 5).trans rfl
                    have hcz41_6 : wc.cell? ⟨gb333, 6, none⟩ = some (.bool a0_6) := (blk_cell BK333.out 6).trans rfl
                    have hcz41_7 : wc.cell? ⟨gb333, 7, none⟩ = some (.int .i64 a0_7) := (blk_cell BK333.out 7).trans rfl
                    have hcz41_8 : wc.cell? ⟨gb333, 8, none⟩ = some (.bool a0_8) := (blk_cell BK333.out 8).trans rfl
                    have hcz41_9 : wc.cell? ⟨gb333, 9, none⟩ = some (.bool a0_9) := (blk_cell BK333.out 9).trans rfl
                    have hcz41_10 : wc.cell? ⟨gb333, 10, none⟩ = some (.bool a0_10) := (blk_cell BK333.out 10).trans rfl
                    have hcz41_11 : wc.cell? ⟨gb333, 11, none⟩ = some (.bool a0_11) := (blk_cell BK333.out 11).trans rfl
                    have hcz41_12 : wc.cell? ⟨gb333, 12, none⟩ = some (.bool a0_12) := (blk_cell BK333.out 12).trans rfl
                    have hcz41_13 : wc.cell? ⟨gb333, 13, none⟩ = some (.bool a0_13) := (blk_cell BK333.out 13).trans rfl
                    have hcz41_14 : wc.cell? ⟨gb333, 14, none⟩ = some (.bool a0_14) := (blk_cell BK333.out 14).trans rfl
                    have hcz41_15 : wc.cell? ⟨gb333, 15, none⟩ = some (.bool a0_15) := (blk_cell BK333.out 15).trans rfl
                    have hcz41_16 : wc.cell? ⟨gb333, 16, none⟩ = some (.int .i64 a0_16) := (blk_cell BK333.out 16).trans rfl
                    have hfz41_0 := blk_frozen BK333.out 0
                    have hfz41_1 := blk_frozen BK333.out 1
                    have hfz41_2 := blk_frozen BK333.out 2
                    have hfz41_3 := blk_frozen BK333.out 3
                    have hfz41_4 := blk_frozen BK333.out 4
                    have hfz41_5 := blk_frozen BK333.out 5
                    have hfz41_6 := blk_frozen BK333.out 6
                    have hfz41_7 := blk_frozen BK333.out 7
                    have hfz41_8 := blk_frozen BK333.out 8
                    have hfz41_9 := blk_frozen BK333.out 9
                    have hfz41_10 := blk_frozen BK333.out 10
                    have hfz41_11 := blk_frozen BK333.out 11
                    have hfz41_12 := blk_frozen BK333.out 12
                    have hfz41_13 := blk_frozen BK333.out 13
                    have hfz41_14 := blk_frozen BK333.out 14
                    have hfz41_15 := blk_frozen BK333.out 15
                    have hfz41_16 := blk_frozen BK333.out 16
                    have hcz42_0 : wc.cell? ⟨gb340, 0, none⟩ = some (.int .i64 t334) := (blk_cell BK340.out 0).trans rfl
                    have hcz42_1 : wc.cell? ⟨gb340, 1, none⟩ = some (.int .i64 t335) := (blk_cell BK340.out 1).trans rfl
                    have hcz42_2 : wc.cell? ⟨gb340, 2, none⟩ = some (.int .i64 t336) := (blk_cell BK340.out 2).trans rfl
                    have hcz42_3 : wc.cell? ⟨gb340, 3, none⟩ = some (.int .i64 t337) := (blk_cell BK340.out 3).trans rfl
                    have hcz42_4 : wc.cell? ⟨gb340, 4, none⟩ = some (.int .i64 t338) := (blk_cell BK340.out 4).trans rfl
                    have hfz42_0 := blk_frozen BK340.out 0
                    have hfz42_1 := blk_frozen BK340.out 1
                    have hfz42_2 := blk_frozen BK340.out 2
                    have hfz42_3 := blk_frozen BK340.out 3
                    have hfz42_4 := blk_frozen BK340.out 4
                    go_wp2_with (first | (go_at_call 12; (with_reducible refine (estoverslaw26_awake.calls kj4  t344 _ A39.out).mono ?_); rintro e w43 ⟨rfl, hb⟩; have n0_ := Aside0.mk (blk_below (g := gb333) (o := .cells #[.bool a0_0, .bool true, .int .i64 a0_2, .bool a0_3, .bool a0_4, .bool true, .bool a0_6, .int .i64 a0_7, .bool a0_8, .bool a0_9, .bool a0_10, .bool a0_11, .bool a0_12, .bool a0_13, .bool a0_14, .bool a0_15, .int .i64 a0_16] 23 (0, 0)) (by (with_reducible repeat (first | refine blk_drewN ?_ _ | refine blk_drew ?_ | refine blk_alloc ?_ _)); exact BK333.out) hb); have n1_ := Aside0.mk (blk_below (g := gb340) (o := .cells #[.int .i64 t334, .int .i64 t335, .int .i64 t336, .int .i64 t337, .int .i64 t338] 28 (0, 0)) (by (with_reducible repeat (first | refine blk_drewN ?_ _ | refine blk_drew ?_ | refine blk_alloc ?_ _)); exact BK340.out) hb); have n2_ := Aside0.mk (below_step (by repeat (first | (with_reducible first | exact HB.out | apply below_alloc | apply pw_below_drewN | apply below_drew1 | refine below_set ?_ GE333.out | refine below_set ?_ GE340.out) | exact HB.out)) hb); clear BK333; clear BK340; clear HB; have BK333 := n0_; have BK340 := n1_; have HB := n2_; clear n0_ n1_ n2_; (try clear hb); (try clear hb2); (try clear hk); (try clear hi)))
                    go_ret
                    exact ⟨by first | rfl | (simp [errW_none, errW_some] <;> rfl) | (simp [*, errW_none, errW_some] <;> rfl), by repeat (first | (with_reducible first | exact HB.out | apply below_alloc | apply pw_below_drewN | apply below_drew1 | refine below_set ?_ GE333.out | refine below_set ?_ GE340.out) | exact HB.out)⟩
                  · rw [if_neg c38] at H
                    have c38b0 : (t335 == 14) = false := beq_eq_false_iff_ne.mpr c38
                    have c38b1 : (t335 != 14) = true := bne_iff_ne.mpr c38
                    obtain rfl := Option.some.inj H
                    have hnb44 := NB333_340.out
                    have hnc44 := NB340_333.out
                    have hcz45_0 : wc.cell? ⟨gb333, 0, none⟩ = some (.bool a0_0) := (blk_cell BK333.out 0).trans rfl
                    have hcz45_1 : wc.cell? ⟨gb333, 1, none⟩ = some (.bool true) := (blk_cell BK333.out 1).trans rfl
                    have hcz45_2 : wc.cell? ⟨gb333, 2, none⟩ = some (.int .i64 a0_2) := (blk_cell BK333.out 2).trans rfl
                    have hcz45_3 : wc.cell? ⟨gb333, 3, none⟩ = some (.bool a0_3) := (blk_cell BK333.out 3).trans rfl
                    have hcz45_4 : wc.cell? ⟨gb333, 4, none⟩ = some (.bool a0_4) := (blk_cell BK333.out 4).trans rfl
                    have hcz45_5 : wc.cell? ⟨gb333, 5, none⟩ = some (.bool true) := (blk_cell BK333.out 5).trans rfl
                    have hcz45_6 : wc.cell? ⟨gb333, 6, none⟩ = some (.bool a0_6) := (blk_cell BK333.out 6).trans rfl
                    have hcz45_7 : wc.cell? ⟨gb333, 7, none⟩ = some (.int .i64 a0_7) := (blk_cell BK333.out 7).trans rfl
                    have hcz45_8 : wc.cell? ⟨gb333, 8, none⟩ = some (.bool a0_8) := (blk_cell BK333.out 8).trans rfl
                    have hcz45_9 : wc.cell? ⟨gb333, 9, none⟩ = some (.bool a0_9) := (blk_cell BK333.out 9).trans rfl
                    have hcz45_10 : wc.cell? ⟨gb333, 10, none⟩ = some (.bool a0_10) := (blk_cell BK333.out 10).trans rfl
                    have hcz45_11 : wc.cell? ⟨gb333, 11, none⟩ = some (.bool a0_11) := (blk_cell BK333.out 11).trans rfl
                    have hcz45_12 : wc.cell? ⟨gb333, 12, none⟩ = some (.bool a0_12) := (blk_cell BK333.out 12).trans rfl
                    have hcz45_13 : wc.cell? ⟨gb333, 13, none⟩ = some (.bool a0_13) := (blk_cell BK333.out 13).trans rfl
                    have hcz45_14 : wc.cell? ⟨gb333, 14, none⟩ = some (.bool a0_14) := (blk_cell BK333.out 14).trans rfl
                    have hcz45_15 : wc.cell? ⟨gb333, 15, none⟩ = some (.bool a0_15) := (blk_cell BK333.out 15).trans rfl
                    have hcz45_16 : wc.cell? ⟨gb333, 16, none⟩ = some (.int .i64 a0_16) := (blk_cell BK333.out 16).trans rfl
                    have hfz45_0 := blk_frozen BK333.out 0
                    have hfz45_1 := blk_frozen BK333.out 1
                    have hfz45_2 := blk_frozen BK333.out 2
                    have hfz45_3 := blk_frozen BK333.out 3
                    have hfz45_4 := blk_frozen BK333.out 4
                    have hfz45_5 := blk_frozen BK333.out 5
                    have hfz45_6 := blk_frozen BK333.out 6
                    have hfz45_7 := blk_frozen BK333.out 7
                    have hfz45_8 := blk_frozen BK333.out 8
                    have hfz45_9 := blk_frozen BK333.out 9
                    have hfz45_10 := blk_frozen BK333.out 10
                    have hfz45_11 := blk_frozen BK333.out 11
                    have hfz45_12 := blk_frozen BK333.out 12
                    have hfz45_13 := blk_frozen BK333.out 13
                    have hfz45_14 := blk_frozen BK333.out 14
                    have hfz45_15 := blk_frozen BK333.out 15
                    have hfz45_16 := blk_frozen BK333.out 16
                    have hcz46_0 : wc.cell? ⟨gb340, 0, none⟩ = some (.int .i64 t334) := (blk_cell BK340.out 0).trans rfl
                    have hcz46_1 : wc.cell? ⟨gb340, 1, none⟩ = some (.int .i64 t335) := (blk_cell BK340.out 1).trans rfl
                    have hcz46_2 : wc.cell? ⟨gb340, 2, none⟩ = some (.int .i64 t336) := (blk_cell BK340.out 2).trans rfl
                    have hcz46_3 : wc.cell? ⟨gb340, 3, none⟩ = some (.int .i64 t337) := (blk_cell BK340.out 3).trans rfl
                    have hcz46_4 : wc.cell? ⟨gb340, 4, none⟩ = some (.int .i64 t338) := (blk_cell BK340.out 4).trans rfl
                    have hfz46_0 := blk_frozen BK340.out 0
                    have hfz46_1 := blk_frozen BK340.out 1
                    have hfz46_2 := blk_frozen BK340.out 2
                    have hfz46_3 := blk_frozen BK340.out 3
                    have hfz46_4 := blk_frozen BK340.out 4
                    go_wp2
                    go_ret
                    exact ⟨by first | rfl | (simp [errW_none, errW_some] <;> rfl) | (simp [*, errW_none, errW_some] <;> rfl), by repeat (first | (with_reducible first | exact HB.out | apply below_alloc | apply pw_below_drewN | apply below_drew1 | refine below_set ?_ GE333.out | refine below_set ?_ GE340.out) | exact HB.out)⟩
                · rw [if_neg c37] at H
                  have c37b0 : (a0_7 == 0) = false := beq_eq_false_iff_ne.mpr c37
                  have c37b1 : (a0_7 != 0) = true := bne_iff_ne.mpr c37
                  by_cases c47 : a0_10 = true
                  · subst c47
                    have H1 : (if t335 = 0 then ((estoverslaw26_awake.f kj4).bind fun t345 => (some t345)) else (some false)) = some r := by rw [if_pos rfl] at H; exact H
                    clear H
                    have H := H1
                    clear H1
                    by_cases c48 : t335 = 0
                    · rw [if_pos c48] at H
                      have c48b0 : (t335 == 0) = true := beq_iff_eq.mpr c48
                      have c48b1 : (t335 != 0) = false := bne_eq_false_iff_eq.mpr c48
                      clear c48
                      replace H := Option.bind_eq_some_iff.mp H
                      obtain ⟨t345, A490, H⟩ := H
                      replace H : (some t345) = some r := H
                      have A49 := Aside0.mk A490
                      clear A490
                      obtain rfl := Option.some.inj H
                      have hnb50 := NB333_340.out
                      have hnc50 := NB340_333.out
                      have hcz51_0 : wc.cell? ⟨gb333, 0, none⟩ = some (.bool a0_0) := (blk_cell BK333.out 0).trans rfl
                      have hcz51_1 : wc.cell? ⟨gb333, 1, none⟩ = some (.bool true) := (blk_cell BK333.out 1).trans rfl
                      have hcz51_2 : wc.cell? ⟨gb333, 2, none⟩ = some (.int .i64 a0_2) := (blk_cell BK333.out 2).trans rfl
                      have hcz51_3 : wc.cell? ⟨gb333, 3, none⟩ = some (.bool a0_3) := (blk_cell BK333.out 3).trans rfl
                      have hcz51_4 : wc.cell? ⟨gb333, 4, none⟩ = some (.bool a0_4) := (blk_cell BK333.out 4).trans rfl
                      have hcz51_5 : wc.cell? ⟨gb333, 5, none⟩ = some (.bool true) := (blk_cell BK333.out 5).trans rfl
                      have hcz51_6 : wc.cell? ⟨gb333, 6, none⟩ = some (.bool a0_6) := (blk_cell BK333.out 6).trans rfl
                      have hcz51_7 : wc.cell? ⟨gb333, 7, none⟩ = some (.int .i64 a0_7) := (blk_cell BK333.out 7).trans rfl
                      have hcz51_8 : wc.cell? ⟨gb333, 8, none⟩ = some (.bool a0_8) := (blk_cell BK333.out 8).trans rfl
                      have hcz51_9 : wc.cell? ⟨gb333, 9, none⟩ = some (.bool a0_9) := (blk_cell BK333.out 9).trans rfl
                      have hcz51_10 : wc.cell? ⟨gb333, 10, none⟩ = some (.bool true) := (blk_cell BK333.out 10).trans rfl
                      have hcz51_11 : wc.cell? ⟨gb333, 11, none⟩ = some (.bool a0_11) := (blk_cell BK333.out 11).trans rfl
                      have hcz51_12 : wc.cell? ⟨gb333, 12, none⟩ = some (.bool a0_12) := (blk_cell BK333.out 12).trans rfl
                      have hcz51_13 : wc.cell? ⟨gb333, 13, none⟩ = some (.bool a0_13) := (blk_cell BK333.out 13).trans rfl
                      have hcz51_14 : wc.cell? ⟨gb333, 14, none⟩ = some (.bool a0_14) := (blk_cell BK333.out 14).trans rfl
                      have hcz51_15 : wc.cell? ⟨gb333, 15, none⟩ = some (.bool a0_15) := (blk_cell BK333.out 15).trans rfl
                      have hcz51_16 : wc.cell? ⟨gb333, 16, none⟩ = some (.int .i64 a0_16) := (blk_cell BK333.out 16).trans rfl
                      have hfz51_0 := blk_frozen BK333.out 0
                      have hfz51_1 := blk_frozen BK333.out 1
                      have hfz51_2 := blk_frozen BK333.out 2
                      have hfz51_3 := blk_frozen BK333.out 3
                      have hfz51_4 := blk_frozen BK333.out 4
                      have hfz51_5 := blk_frozen BK333.out 5
                      have hfz51_6 := blk_frozen BK333.out 6
                      have hfz51_7 := blk_frozen BK333.out 7
                      have hfz51_8 := blk_frozen BK333.out 8
                      have hfz51_9 := blk_frozen BK333.out 9
                      have hfz51_10 := blk_frozen BK333.out 10
                      have hfz51_11 := blk_frozen BK333.out 11
                      have hfz51_12 := blk_frozen BK333.out 12
                      have hfz51_13 := blk_frozen BK333.out 13
                      have hfz51_14 := blk_frozen BK333.out 14
                      have hfz51_15 := blk_frozen BK333.out 15
                      have hfz51_16 := blk_frozen BK333.out 16
                      have hcz52_0 : wc.cell? ⟨gb340, 0, none⟩ = some (.int .i64 t334) := (blk_cell BK340.out 0).trans rfl
                      have hcz52_1 : wc.cell? ⟨gb340, 1, none⟩ = some (.int .i64 t335) := (blk_cell BK340.out 1).trans rfl
                      have hcz52_2 : wc.cell? ⟨gb340, 2, none⟩ = some (.int .i64 t336) := (blk_cell BK340.out 2).trans rfl
                      have hcz52_3 : wc.cell? ⟨gb340, 3, none⟩ = some (.int .i64 t337) := (blk_cell BK340.out 3).trans rfl
                      have hcz52_4 : wc.cell? ⟨gb340, 4, none⟩ = some (.int .i64 t338) := (blk_cell BK340.out 4).trans rfl
                      have hfz52_0 := blk_frozen BK340.out 0
                      have hfz52_1 := blk_frozen BK340.out 1
                      have hfz52_2 := blk_frozen BK340.out 2
                      have hfz52_3 := blk_frozen BK340.out 3
                      have hfz52_4 := blk_frozen BK340.out 4
                      go_wp2_with (first | (go_at_call 12; (with_reducible refine (estoverslaw26_awake.calls kj4  t345 _ A49.out).mono ?_); rintro e w53 ⟨rfl, hb⟩; have n0_ := Aside0.mk (blk_below (g := gb333) (o := .cells #[.bool a0_0, .bool true, .int .i64 a0_2, .bool a0_3, .bool a0_4, .bool true, .bool a0_6, .int .i64 a0_7, .bool a0_8, .bool a0_9, .bool true, .bool a0_11, .bool a0_12, .bool a0_13, .bool a0_14, .bool a0_15, .int .i64 a0_16] 23 (0, 0)) (by (with_reducible repeat (first | refine blk_drewN ?_ _ | refine blk_drew ?_ | refine blk_alloc ?_ _)); exact BK333.out) hb); have n1_ := Aside0.mk (blk_below (g := gb340) (o := .cells #[.int .i64 t334, .int .i64 t335, .int .i64 t336, .int .i64 t337, .int .i64 t338] 28 (0, 0)) (by (with_reducible repeat (first | refine blk_drewN ?_ _ | refine blk_drew ?_ | refine blk_alloc ?_ _)); exact BK340.out) hb); have n2_ := Aside0.mk (below_step (by repeat (first | (with_reducible first | exact HB.out | apply below_alloc | apply pw_below_drewN | apply below_drew1 | refine below_set ?_ GE333.out | refine below_set ?_ GE340.out) | exact HB.out)) hb); clear BK333; clear BK340; clear HB; have BK333 := n0_; have BK340 := n1_; have HB := n2_; clear n0_ n1_ n2_; (try clear hb); (try clear hb2); (try clear hk); (try clear hi)))
                      go_ret
                      exact ⟨by first | rfl | (simp [errW_none, errW_some] <;> rfl) | (simp [*, errW_none, errW_some] <;> rfl), by repeat (first | (with_reducible first | exact HB.out | apply below_alloc | apply pw_below_drewN | apply below_drew1 | refine below_set ?_ GE333.out | refine below_set ?_ GE340.out) | exact HB.out)⟩
                    · rw [if_neg c48] at H
                      have c48b0 : (t335 == 0) = false := beq_eq_false_iff_ne.mpr c48
                      have c48b1 : (t335 != 0) = true := bne_iff_ne.mpr c48
                      obtain rfl := Option.some.inj H
                      have hnb54 := NB333_340.out
                      have hnc54 := NB340_333.out
                      have hcz55_0 : wc.cell? ⟨gb333, 0, none⟩ = some (.bool a0_0) := (blk_cell BK333.out 0).trans rfl
                      have hcz55_1 : wc.cell? ⟨gb333, 1, none⟩ = some (.bool true) := (blk_cell BK333.out 1).trans rfl
                      have hcz55_2 : wc.cell? ⟨gb333, 2, none⟩ = some (.int .i64 a0_2) := (blk_cell BK333.out 2).trans rfl
                      have hcz55_3 : wc.cell? ⟨gb333, 3, none⟩ = some (.bool a0_3) := (blk_cell BK333.out 3).trans rfl
                      have hcz55_4 : wc.cell? ⟨gb333, 4, none⟩ = some (.bool a0_4) := (blk_cell BK333.out 4).trans rfl
                      have hcz55_5 : wc.cell? ⟨gb333, 5, none⟩ = some (.bool true) := (blk_cell BK333.out 5).trans rfl
                      have hcz55_6 : wc.cell? ⟨gb333, 6, none⟩ = some (.bool a0_6) := (blk_cell BK333.out 6).trans rfl
                      have hcz55_7 : wc.cell? ⟨gb333, 7, none⟩ = some (.int .i64 a0_7) := (blk_cell BK333.out 7).trans rfl
                      have hcz55_8 : wc.cell? ⟨gb333, 8, none⟩ = some (.bool a0_8) := (blk_cell BK333.out 8).trans rfl
                      have hcz55_9 : wc.cell? ⟨gb333, 9, none⟩ = some (.bool a0_9) := (blk_cell BK333.out 9).trans rfl
                      have hcz55_10 : wc.cell? ⟨gb333, 10, none⟩ = some (.bool true) := (blk_cell BK333.out 10).trans rfl
                      have hcz55_11 : wc.cell? ⟨gb333, 11, none⟩ = some (.bool a0_11) := (blk_cell BK333.out 11).trans rfl
                      have hcz55_12 : wc.cell? ⟨gb333, 12, none⟩ = some (.bool a0_12) := (blk_cell BK333.out 12).trans rfl
                      have hcz55_13 : wc.cell? ⟨gb333, 13, none⟩ = some (.bool a0_13) := (blk_cell BK333.out 13).trans rfl
                      have hcz55_14 : wc.cell? ⟨gb333, 14, none⟩ = some (.bool a0_14) := (blk_cell BK333.out 14).trans rfl
                      have hcz55_15 : wc.cell? ⟨gb333, 15, none⟩ = some (.bool a0_15) := (blk_cell BK333.out 15).trans rfl
                      have hcz55_16 : wc.cell? ⟨gb333, 16, none⟩ = some (.int .i64 a0_16) := (blk_cell BK333.out 16).trans rfl
                      have hfz55_0 := blk_frozen BK333.out 0
                      have hfz55_1 := blk_frozen BK333.out 1
                      have hfz55_2 := blk_frozen BK333.out 2
                      have hfz55_3 := blk_frozen BK333.out 3
                      have hfz55_4 := blk_frozen BK333.out 4
                      have hfz55_5 := blk_frozen BK333.out 5
                      have hfz55_6 := blk_frozen BK333.out 6
                      have hfz55_7 := blk_frozen BK333.out 7
                      have hfz55_8 := blk_frozen BK333.out 8
                      have hfz55_9 := blk_frozen BK333.out 9
                      have hfz55_10 := blk_frozen BK333.out 10
                      have hfz55_11 := blk_frozen BK333.out 11
                      have hfz55_12 := blk_frozen BK333.out 12
                      have hfz55_13 := blk_frozen BK333.out 13
                      have hfz55_14 := blk_frozen BK333.out 14
                      have hfz55_15 := blk_frozen BK333.out 15
                      have hfz55_16 := blk_frozen BK333.out 16
                      have hcz56_0 : wc.cell? ⟨gb340, 0, none⟩ = some (.int .i64 t334) := (blk_cell BK340.out 0).trans rfl
                      have hcz56_1 : wc.cell? ⟨gb340, 1, none⟩ = some (.int .i64 t335) := (blk_cell BK340.out 1).trans rfl
                      have hcz56_2 : wc.cell? ⟨gb340, 2, none⟩ = some (.int .i64 t336) := (blk_cell BK340.out 2).trans rfl
                      have hcz56_3 : wc.cell? ⟨gb340, 3, none⟩ = some (.int .i64 t337) := (blk_cell BK340.out 3).trans rfl
                      have hcz56_4 : wc.cell? ⟨gb340, 4, none⟩ = some (.int .i64 t338) := (blk_cell BK340.out 4).trans rfl
                      have hfz56_0 := blk_frozen BK340.out 0
                      have hfz56_1 := blk_frozen BK340.out 1
                      have hfz56_2 := blk_frozen BK340.out 2
                      have hfz56_3 := blk_frozen BK340.out 3
                      have hfz56_4 := blk_frozen BK340.out 4
                      go_wp2
                      go_ret
                      exact ⟨by first | rfl | (simp [errW_none, errW_some] <;> rfl) | (simp [*, errW_none, errW_some] <;> rfl), by repeat (first | (with_reducible first | exact HB.out | apply below_alloc | apply pw_below_drewN | apply below_drew1 | refine below_set ?_ GE333.out | refine below_set ?_ GE340.out) | exact HB.out)⟩
                  · replace c47 := Bool.eq_false_iff.mpr c47
                    subst c47
                    have H1 : (if t335 = 14 then ((estoverslaw26_awake.f kj4).bind fun t346 => (some t346)) else (some false)) = some r := by rw [if_neg (show ¬ (false = true) by decide)] at H; exact H
                    clear H
                    have H := H1
                    clear H1
                    by_cases c57 : t335 = 14
                    · rw [if_pos c57] at H
                      have c57b0 : (t335 == 14) = true := beq_iff_eq.mpr c57
                      have c57b1 : (t335 != 14) = false := bne_eq_false_iff_eq.mpr c57
                      clear c57
                      replace H := Option.bind_eq_some_iff.mp H
                      obtain ⟨t346, A580, H⟩ := H
                      replace H : (some t346) = some r := H
                      have A58 := Aside0.mk A580
                      clear A580
                      obtain rfl := Option.some.inj H
                      have hnb59 := NB333_340.out
                      have hnc59 := NB340_333.out
                      have hcz60_0 : wc.cell? ⟨gb333, 0, none⟩ = some (.bool a0_0) := (blk_cell BK333.out 0).trans rfl
                      have hcz60_1 : wc.cell? ⟨gb333, 1, none⟩ = some (.bool true) := (blk_cell BK333.out 1).trans rfl
                      have hcz60_2 : wc.cell? ⟨gb333, 2, none⟩ = some (.int .i64 a0_2) := (blk_cell BK333.out 2).trans rfl
                      have hcz60_3 : wc.cell? ⟨gb333, 3, none⟩ = some (.bool a0_3) := (blk_cell BK333.out 3).trans rfl
                      have hcz60_4 : wc.cell? ⟨gb333, 4, none⟩ = some (.bool a0_4) := (blk_cell BK333.out 4).trans rfl
                      have hcz60_5 : wc.cell? ⟨gb333, 5, none⟩ = some (.bool true) := (blk_cell BK333.out 5).trans rfl
                      have hcz60_6 : wc.cell? ⟨gb333, 6, none⟩ = some (.bool a0_6) := (blk_cell BK333.out 6).trans rfl
                      have hcz60_7 : wc.cell? ⟨gb333, 7, none⟩ = some (.int .i64 a0_7) := (blk_cell BK333.out 7).trans rfl
                      have hcz60_8 : wc.cell? ⟨gb333, 8, none⟩ = some (.bool a0_8) := (blk_cell BK333.out 8).trans rfl
                      have hcz60_9 : wc.cell? ⟨gb333, 9, none⟩ = some (.bool a0_9) := (blk_cell BK333.out 9).trans rfl
                      have hcz60_10 : wc.cell? ⟨gb333, 10, none⟩ = some (.bool false) := (blk_cell BK333.out 10).trans rfl
                      have hcz60_11 : wc.cell? ⟨gb333, 11, none⟩ = some (.bool a0_11) := (blk_cell BK333.out 11).trans rfl
                      have hcz60_12 : wc.cell? ⟨gb333, 12, none⟩ = some (.bool a0_12) := (blk_cell BK333.out 12).trans rfl
                      have hcz60_13 : wc.cell? ⟨gb333, 13, none⟩ = some (.bool a0_13) := (blk_cell BK333.out 13).trans rfl
                      have hcz60_14 : wc.cell? ⟨gb333, 14, none⟩ = some (.bool a0_14) := (blk_cell BK333.out 14).trans rfl
                      have hcz60_15 : wc.cell? ⟨gb333, 15, none⟩ = some (.bool a0_15) := (blk_cell BK333.out 15).trans rfl
                      have hcz60_16 : wc.cell? ⟨gb333, 16, none⟩ = some (.int .i64 a0_16) := (blk_cell BK333.out 16).trans rfl
                      have hfz60_0 := blk_frozen BK333.out 0
                      have hfz60_1 := blk_frozen BK333.out 1
                      have hfz60_2 := blk_frozen BK333.out 2
                      have hfz60_3 := blk_frozen BK333.out 3
                      have hfz60_4 := blk_frozen BK333.out 4
                      have hfz60_5 := blk_frozen BK333.out 5
                      have hfz60_6 := blk_frozen BK333.out 6
                      have hfz60_7 := blk_frozen BK333.out 7
                      have hfz60_8 := blk_frozen BK333.out 8
                      have hfz60_9 := blk_frozen BK333.out 9
                      have hfz60_10 := blk_frozen BK333.out 10
                      have hfz60_11 := blk_frozen BK333.out 11
                      have hfz60_12 := blk_frozen BK333.out 12
                      have hfz60_13 := blk_frozen BK333.out 13
                      have hfz60_14 := blk_frozen BK333.out 14
                      have hfz60_15 := blk_frozen BK333.out 15
                      have hfz60_16 := blk_frozen BK333.out 16
                      have hcz61_0 : wc.cell? ⟨gb340, 0, none⟩ = some (.int .i64 t334) := (blk_cell BK340.out 0).trans rfl
                      have hcz61_1 : wc.cell? ⟨gb340, 1, none⟩ = some (.int .i64 t335) := (blk_cell BK340.out 1).trans rfl
                      have hcz61_2 : wc.cell? ⟨gb340, 2, none⟩ = some (.int .i64 t336) := (blk_cell BK340.out 2).trans rfl
                      have hcz61_3 : wc.cell? ⟨gb340, 3, none⟩ = some (.int .i64 t337) := (blk_cell BK340.out 3).trans rfl
                      have hcz61_4 : wc.cell? ⟨gb340, 4, none⟩ = some (.int .i64 t338) := (blk_cell BK340.out 4).trans rfl
                      have hfz61_0 := blk_frozen BK340.out 0
                      have hfz61_1 := blk_frozen BK340.out 1
                      have hfz61_2 := blk_frozen BK340.out 2
                      have hfz61_3 := blk_frozen BK340.out 3
                      have hfz61_4 := blk_frozen BK340.out 4
                      go_wp2_with (first | (go_at_call 12; (with_reducible refine (estoverslaw26_awake.calls kj4  t346 _ A58.out).mono ?_); rintro e w62 ⟨rfl, hb⟩; have n0_ := Aside0.mk (blk_below (g := gb333) (o := .cells #[.bool a0_0, .bool true, .int .i64 a0_2, .bool a0_3, .bool a0_4, .bool true, .bool a0_6, .int .i64 a0_7, .bool a0_8, .bool a0_9, .bool false, .bool a0_11, .bool a0_12, .bool a0_13, .bool a0_14, .bool a0_15, .int .i64 a0_16] 23 (0, 0)) (by (with_reducible repeat (first | refine blk_drewN ?_ _ | refine blk_drew ?_ | refine blk_alloc ?_ _)); exact BK333.out) hb); have n1_ := Aside0.mk (blk_below (g := gb340) (o := .cells #[.int .i64 t334, .int .i64 t335, .int .i64 t336, .int .i64 t337, .int .i64 t338] 28 (0, 0)) (by (with_reducible repeat (first | refine blk_drewN ?_ _ | refine blk_drew ?_ | refine blk_alloc ?_ _)); exact BK340.out) hb); have n2_ := Aside0.mk (below_step (by repeat (first | (with_reducible first | exact HB.out | apply below_alloc | apply pw_below_drewN | apply below_drew1 | refine below_set ?_ GE333.out | refine below_set ?_ GE340.out) | exact HB.out)) hb); clear BK333; clear BK340; clear HB; have BK333 := n0_; have BK340 := n1_; have HB := n2_; clear n0_ n1_ n2_; (try clear hb); (try clear hb2); (try clear hk); (try clear hi)))
                      go_ret
                      exact ⟨by first | rfl | (simp [errW_none, errW_some] <;> rfl) | (simp [*, errW_none, errW_some] <;> rfl), by repeat (first | (with_reducible first | exact HB.out | apply below_alloc | apply pw_below_drewN | apply below_drew1 | refine below_set ?_ GE333.out | refine below_set ?_ GE340.out) | exact HB.out)⟩
                    · rw [if_neg c57] at H
                      have c57b0 : (t335 == 14) = false := beq_eq_false_iff_ne.mpr c57
                      have c57b1 : (t335 != 14) = true := bne_iff_ne.mpr c57
                      obtain rfl := Option.some.inj H
                      have hnb63 := NB333_340.out
                      have hnc63 := NB340_333.out
                      have hcz64_0 : wc.cell? ⟨gb333, 0, none⟩ = some (.bool a0_0) := (blk_cell BK333.out 0).trans rfl
                      have hcz64_1 : wc.cell? ⟨gb333, 1, none⟩ = some (.bool true) := (blk_cell BK333.out 1).trans rfl
                      have hcz64_2 : wc.cell? ⟨gb333, 2, none⟩ = some (.int .i64 a0_2) := (blk_cell BK333.out 2).trans rfl
                      have hcz64_3 : wc.cell? ⟨gb333, 3, none⟩ = some (.bool a0_3) := (blk_cell BK333.out 3).trans rfl
                      have hcz64_4 : wc.cell? ⟨gb333, 4, none⟩ = some (.bool a0_4) := (blk_cell BK333.out 4).trans rfl
                      have hcz64_5 : wc.cell? ⟨gb333, 5, none⟩ = some (.bool true) := (blk_cell BK333.out 5).trans rfl
                      have hcz64_6 : wc.cell? ⟨gb333, 6, none⟩ = some (.bool a0_6) := (blk_cell BK333.out 6).trans rfl
                      have hcz64_7 : wc.cell? ⟨gb333, 7, none⟩ = some (.int .i64 a0_7) := (blk_cell BK333.out 7).trans rfl
                      have hcz64_8 : wc.cell? ⟨gb333, 8, none⟩ = some (.bool a0_8) := (blk_cell BK333.out 8).trans rfl
                      have hcz64_9 : wc.cell? ⟨gb333, 9, none⟩ = some (.bool a0_9) := (blk_cell BK333.out 9).trans rfl
                      have hcz64_10 : wc.cell? ⟨gb333, 10, none⟩ = some (.bool false) := (blk_cell BK333.out 10).trans rfl
                      have hcz64_11 : wc.cell? ⟨gb333, 11, none⟩ = some (.bool a0_11) := (blk_cell BK333.out 11).trans rfl
                      have hcz64_12 : wc.cell? ⟨gb333, 12, none⟩ = some (.bool a0_12) := (blk_cell BK333.out 12).trans rfl
                      have hcz64_13 : wc.cell? ⟨gb333, 13, none⟩ = some (.bool a0_13) := (blk_cell BK333.out 13).trans rfl
                      have hcz64_14 : wc.cell? ⟨gb333, 14, none⟩ = some (.bool a0_14) := (blk_cell BK333.out 14).trans rfl
                      have hcz64_15 : wc.cell? ⟨gb333, 15, none⟩ = some (.bool a0_15) := (blk_cell BK333.out 15).trans rfl
                      have hcz64_16 : wc.cell? ⟨gb333, 16, none⟩ = some (.int .i64 a0_16) := (blk_cell BK333.out 16).trans rfl
                      have hfz64_0 := blk_frozen BK333.out 0
                      have hfz64_1 := blk_frozen BK333.out 1
                      have hfz64_2 := blk_frozen BK333.out 2
                      have hfz64_3 := blk_frozen BK333.out 3
                      have hfz64_4 := blk_frozen BK333.out 4
                      have hfz64_5 := blk_frozen BK333.out 5
                      have hfz64_6 := blk_frozen BK333.out 6
                      have hfz64_7 := blk_frozen BK333.out 7
                      have hfz64_8 := blk_frozen BK333.out 8
                      have hfz64_9 := blk_frozen BK333.out 9
                      have hfz64_10 := blk_frozen BK333.out 10
                      have hfz64_11 := blk_frozen BK333.out 11
                      have hfz64_12 := blk_frozen BK333.out 12
                      have hfz64_13 := blk_frozen BK333.out 13
                      have hfz64_14 := blk_frozen BK333.out 14
                      have hfz64_15 := blk_frozen BK333.out 15
                      have hfz64_16 := blk_frozen BK333.out 16
                      have hcz65_0 : wc.cell? ⟨gb340, 0, none⟩ = some (.int .i64 t334) := (blk_cell BK340.out 0).trans rfl
                      have hcz65_1 : wc.cell? ⟨gb340, 1, none⟩ = some (.int .i64 t335) := (blk_cell BK340.out 1).trans rfl
                      have hcz65_2 : wc.cell? ⟨gb340, 2, none⟩ = some (.int .i64 t336) := (blk_cell BK340.out 2).trans rfl
                      have hcz65_3 : wc.cell? ⟨gb340, 3, none⟩ = some (.int .i64 t337) := (blk_cell BK340.out 3).trans rfl
                      have hcz65_4 : wc.cell? ⟨gb340, 4, none⟩ = some (.int .i64 t338) := (blk_cell BK340.out 4).trans rfl
                      have hfz65_0 := blk_frozen BK340.out 0
                      have hfz65_1 := blk_frozen BK340.out 1
                      have hfz65_2 := blk_frozen BK340.out 2
                      have hfz65_3 := blk_frozen BK340.out 3
                      have hfz65_4 := blk_frozen BK340.out 4
                      go_wp2
                      go_ret
                      exact ⟨by first | rfl | (simp [errW_none, errW_some] <;> rfl) | (simp [*, errW_none, errW_some] <;> rfl), by repeat (first | (with_reducible first | exact HB.out | apply below_alloc | apply pw_below_drewN | apply below_drew1 | refine below_set ?_ GE333.out | refine below_set ?_ GE340.out) | exact HB.out)⟩
            · replace c26 := Bool.eq_false_iff.mpr c26
              subst c26
              have H1 : (if t335 = 0 then ((estoverslaw26_awake.f kj4).bind fun t347 => (some t347)) else (some false)) = some r := by rw [if_neg (show ¬ (false = true) by decide)] at H; exact H
              clear H
              have H := H1
              clear H1
              by_cases c66 : t335 = 0
              · rw [if_pos c66] at H
                have c66b0 : (t335 == 0) = true := beq_iff_eq.mpr c66
                have c66b1 : (t335 != 0) = false := bne_eq_false_iff_eq.mpr c66
                clear c66
                replace H := Option.bind_eq_some_iff.mp H
                obtain ⟨t347, A670, H⟩ := H
                replace H : (some t347) = some r := H
                have A67 := Aside0.mk A670
                clear A670
                obtain rfl := Option.some.inj H
                have hnb68 := NB333_340.out
                have hnc68 := NB340_333.out
                have hcz69_0 : wc.cell? ⟨gb333, 0, none⟩ = some (.bool a0_0) := (blk_cell BK333.out 0).trans rfl
                have hcz69_1 : wc.cell? ⟨gb333, 1, none⟩ = some (.bool true) := (blk_cell BK333.out 1).trans rfl
                have hcz69_2 : wc.cell? ⟨gb333, 2, none⟩ = some (.int .i64 a0_2) := (blk_cell BK333.out 2).trans rfl
                have hcz69_3 : wc.cell? ⟨gb333, 3, none⟩ = some (.bool a0_3) := (blk_cell BK333.out 3).trans rfl
                have hcz69_4 : wc.cell? ⟨gb333, 4, none⟩ = some (.bool a0_4) := (blk_cell BK333.out 4).trans rfl
                have hcz69_5 : wc.cell? ⟨gb333, 5, none⟩ = some (.bool false) := (blk_cell BK333.out 5).trans rfl
                have hcz69_6 : wc.cell? ⟨gb333, 6, none⟩ = some (.bool a0_6) := (blk_cell BK333.out 6).trans rfl
                have hcz69_7 : wc.cell? ⟨gb333, 7, none⟩ = some (.int .i64 a0_7) := (blk_cell BK333.out 7).trans rfl
                have hcz69_8 : wc.cell? ⟨gb333, 8, none⟩ = some (.bool a0_8) := (blk_cell BK333.out 8).trans rfl
                have hcz69_9 : wc.cell? ⟨gb333, 9, none⟩ = some (.bool a0_9) := (blk_cell BK333.out 9).trans rfl
                have hcz69_10 : wc.cell? ⟨gb333, 10, none⟩ = some (.bool a0_10) := (blk_cell BK333.out 10).trans rfl
                have hcz69_11 : wc.cell? ⟨gb333, 11, none⟩ = some (.bool a0_11) := (blk_cell BK333.out 11).trans rfl
                have hcz69_12 : wc.cell? ⟨gb333, 12, none⟩ = some (.bool a0_12) := (blk_cell BK333.out 12).trans rfl
                have hcz69_13 : wc.cell? ⟨gb333, 13, none⟩ = some (.bool a0_13) := (blk_cell BK333.out 13).trans rfl
                have hcz69_14 : wc.cell? ⟨gb333, 14, none⟩ = some (.bool a0_14) := (blk_cell BK333.out 14).trans rfl
                have hcz69_15 : wc.cell? ⟨gb333, 15, none⟩ = some (.bool a0_15) := (blk_cell BK333.out 15).trans rfl
                have hcz69_16 : wc.cell? ⟨gb333, 16, none⟩ = some (.int .i64 a0_16) := (blk_cell BK333.out 16).trans rfl
                have hfz69_0 := blk_frozen BK333.out 0
                have hfz69_1 := blk_frozen BK333.out 1
                have hfz69_2 := blk_frozen BK333.out 2
                have hfz69_3 := blk_frozen BK333.out 3
                have hfz69_4 := blk_frozen BK333.out 4
                have hfz69_5 := blk_frozen BK333.out 5
                have hfz69_6 := blk_frozen BK333.out 6
                have hfz69_7 := blk_frozen BK333.out 7
                have hfz69_8 := blk_frozen BK333.out 8
                have hfz69_9 := blk_frozen BK333.out 9
                have hfz69_10 := blk_frozen BK333.out 10
                have hfz69_11 := blk_frozen BK333.out 11
                have hfz69_12 := blk_frozen BK333.out 12
                have hfz69_13 := blk_frozen BK333.out 13
                have hfz69_14 := blk_frozen BK333.out 14
                have hfz69_15 := blk_frozen BK333.out 15
                have hfz69_16 := blk_frozen BK333.out 16
                have hcz70_0 : wc.cell? ⟨gb340, 0, none⟩ = some (.int .i64 t334) := (blk_cell BK340.out 0).trans rfl
                have hcz70_1 : wc.cell? ⟨gb340, 1, none⟩ = some (.int .i64 t335) := (blk_cell BK340.out 1).trans rfl
                have hcz70_2 : wc.cell? ⟨gb340, 2, none⟩ = some (.int .i64 t336) := (blk_cell BK340.out 2).trans rfl
                have hcz70_3 : wc.cell? ⟨gb340, 3, none⟩ = some (.int .i64 t337) := (blk_cell BK340.out 3).trans rfl
                have hcz70_4 : wc.cell? ⟨gb340, 4, none⟩ = some (.int .i64 t338) := (blk_cell BK340.out 4).trans rfl
                have hfz70_0 := blk_frozen BK340.out 0
                have hfz70_1 := blk_frozen BK340.out 1
                have hfz70_2 := blk_frozen BK340.out 2
                have hfz70_3 := blk_frozen BK340.out 3
                have hfz70_4 := blk_frozen BK340.out 4
                go_wp2_with (first | (go_at_call 12; (with_reducible refine (estoverslaw26_awake.calls kj4  t347 _ A67.out).mono ?_); rintro e w71 ⟨rfl, hb⟩; have n0_ := Aside0.mk (blk_below (g := gb333) (o := .cells #[.bool a0_0, .bool true, .int .i64 a0_2, .bool a0_3, .bool a0_4, .bool false, .bool a0_6, .int .i64 a0_7, .bool a0_8, .bool a0_9, .bool a0_10, .bool a0_11, .bool a0_12, .bool a0_13, .bool a0_14, .bool a0_15, .int .i64 a0_16] 23 (0, 0)) (by (with_reducible repeat (first | refine blk_drewN ?_ _ | refine blk_drew ?_ | refine blk_alloc ?_ _)); exact BK333.out) hb); have n1_ := Aside0.mk (blk_below (g := gb340) (o := .cells #[.int .i64 t334, .int .i64 t335, .int .i64 t336, .int .i64 t337, .int .i64 t338] 28 (0, 0)) (by (with_reducible repeat (first | refine blk_drewN ?_ _ | refine blk_drew ?_ | refine blk_alloc ?_ _)); exact BK340.out) hb); have n2_ := Aside0.mk (below_step (by repeat (first | (with_reducible first | exact HB.out | apply below_alloc | apply pw_below_drewN | apply below_drew1 | refine below_set ?_ GE333.out | refine below_set ?_ GE340.out) | exact HB.out)) hb); clear BK333; clear BK340; clear HB; have BK333 := n0_; have BK340 := n1_; have HB := n2_; clear n0_ n1_ n2_; (try clear hb); (try clear hb2); (try clear hk); (try clear hi)))
                go_ret
                exact ⟨by first | rfl | (simp [errW_none, errW_some] <;> rfl) | (simp [*, errW_none, errW_some] <;> rfl), by repeat (first | (with_reducible first | exact HB.out | apply below_alloc | apply pw_below_drewN | apply below_drew1 | refine below_set ?_ GE333.out | refine below_set ?_ GE340.out) | exact HB.out)⟩
              · rw [if_neg c66] at H
                have c66b0 : (t335 == 0) = false := beq_eq_false_iff_ne.mpr c66
                have c66b1 : (t335 != 0) = true := bne_iff_ne.mpr c66
                obtain rfl := Option.some.inj H
                have hnb72 := NB333_340.out
                have hnc72 := NB340_333.out
                have hcz73_0 : wc.cell? ⟨gb333, 0, none⟩ = some (.bool a0_0) := (blk_cell BK333.out 0).trans rfl
                have hcz73_1 : wc.cell? ⟨gb333, 1, none⟩ = some (.bool true) := (blk_cell BK333.out 1).trans rfl
                have hcz73_2 : wc.cell? ⟨gb333, 2, none⟩ = some (.int .i64 a0_2) := (blk_cell BK333.out 2).trans rfl
                have hcz73_3 : wc.cell? ⟨gb333, 3, none⟩ = some (.bool a0_3) := (blk_cell BK333.out 3).trans rfl
                have hcz73_4 : wc.cell? ⟨gb333, 4, none⟩ = some (.bool a0_4) := (blk_cell BK333.out 4).trans rfl
                have hcz73_5 : wc.cell? ⟨gb333, 5, none⟩ = some (.bool false) := (blk_cell BK333.out 5).trans rfl
                have hcz73_6 : wc.cell? ⟨gb333, 6, none⟩ = some (.bool a0_6) := (blk_cell BK333.out 6).trans rfl
                have hcz73_7 : wc.cell? ⟨gb333, 7, none⟩ = some (.int .i64 a0_7) := (blk_cell BK333.out 7).trans rfl
                have hcz73_8 : wc.cell? ⟨gb333, 8, none⟩ = some (.bool a0_8) := (blk_cell BK333.out 8).trans rfl
                have hcz73_9 : wc.cell? ⟨gb333, 9, none⟩ = some (.bool a0_9) := (blk_cell BK333.out 9).trans rfl
                have hcz73_10 : wc.cell? ⟨gb333, 10, none⟩ = some (.bool a0_10) := (blk_cell BK333.out 10).trans rfl
                have hcz73_11 : wc.cell? ⟨gb333, 11, none⟩ = some (.bool a0_11) := (blk_cell BK333.out 11).trans rfl
                have hcz73_12 : wc.cell? ⟨gb333, 12, none⟩ = some (.bool a0_12) := (blk_cell BK333.out 12).trans rfl
                have hcz73_13 : wc.cell? ⟨gb333, 13, none⟩ = some (.bool a0_13) := (blk_cell BK333.out 13).trans rfl
                have hcz73_14 : wc.cell? ⟨gb333, 14, none⟩ = some (.bool a0_14) := (blk_cell BK333.out 14).trans rfl
                have hcz73_15 : wc.cell? ⟨gb333, 15, none⟩ = some (.bool a0_15) := (blk_cell BK333.out 15).trans rfl
                have hcz73_16 : wc.cell? ⟨gb333, 16, none⟩ = some (.int .i64 a0_16) := (blk_cell BK333.out 16).trans rfl
                have hfz73_0 := blk_frozen BK333.out 0
                have hfz73_1 := blk_frozen BK333.out 1
                have hfz73_2 := blk_frozen BK333.out 2
                have hfz73_3 := blk_frozen BK333.out 3
                have hfz73_4 := blk_frozen BK333.out 4
                have hfz73_5 := blk_frozen BK333.out 5
                have hfz73_6 := blk_frozen BK333.out 6
                have hfz73_7 := blk_frozen BK333.out 7
                have hfz73_8 := blk_frozen BK333.out 8
                have hfz73_9 := blk_frozen BK333.out 9
                have hfz73_10 := blk_frozen BK333.out 10
                have hfz73_11 := blk_frozen BK333.out 11
                have hfz73_12 := blk_frozen BK333.out 12
                have hfz73_13 := blk_frozen BK333.out 13
                have hfz73_14 := blk_frozen BK333.out 14
                have hfz73_15 := blk_frozen BK333.out 15
                have hfz73_16 := blk_frozen BK333.out 16
                have hcz74_0 : wc.cell? ⟨gb340, 0, none⟩ = some (.int .i64 t334) := (blk_cell BK340.out 0).trans rfl
                have hcz74_1 : wc.cell? ⟨gb340, 1, none⟩ = some (.int .i64 t335) := (blk_cell BK340.out 1).trans rfl
                have hcz74_2 : wc.cell? ⟨gb340, 2, none⟩ = some (.int .i64 t336) := (blk_cell BK340.out 2).trans rfl
                have hcz74_3 : wc.cell? ⟨gb340, 3, none⟩ = some (.int .i64 t337) := (blk_cell BK340.out 3).trans rfl
                have hcz74_4 : wc.cell? ⟨gb340, 4, none⟩ = some (.int .i64 t338) := (blk_cell BK340.out 4).trans rfl
                have hfz74_0 := blk_frozen BK340.out 0
                have hfz74_1 := blk_frozen BK340.out 1
                have hfz74_2 := blk_frozen BK340.out 2
                have hfz74_3 := blk_frozen BK340.out 3
                have hfz74_4 := blk_frozen BK340.out 4
                go_wp2
                go_ret
                exact ⟨by first | rfl | (simp [errW_none, errW_some] <;> rfl) | (simp [*, errW_none, errW_some] <;> rfl), by repeat (first | (with_reducible first | exact HB.out | apply below_alloc | apply pw_below_drewN | apply below_drew1 | refine below_set ?_ GE333.out | refine below_set ?_ GE340.out) | exact HB.out)⟩
    · replace c4 := Bool.eq_false_iff.mpr c4
      subst c4
      have H1 : (if t335 = 13 then ((estoverslaw26_awake.f k).bind fun t348 => (some t348)) else (some false)) = some r := by rw [if_neg (show ¬ (false = true) by decide)] at H; exact H
      clear H
      have H := H1
      clear H1
      by_cases c75 : t335 = 13
      · rw [if_pos c75] at H
        have c75b0 : (t335 == 13) = true := beq_iff_eq.mpr c75
        have c75b1 : (t335 != 13) = false := bne_eq_false_iff_eq.mpr c75
        clear c75
        replace H := Option.bind_eq_some_iff.mp H
        obtain ⟨t348, A760, H⟩ := H
        replace H : (some t348) = some r := H
        have A76 := Aside0.mk A760
        clear A760
        obtain rfl := Option.some.inj H
        go_enter Try.func8, Try.ntmps8
        go_wp2_with (first | ((with_reducible refine gate_dst (N := 1) rfl ?_); refine box_event ?hg (N := 1) ?hd (cs := #[.bool a0_0, .bool false, .int .i64 a0_2, .bool a0_3, .bool a0_4, .bool a0_5, .bool a0_6, .int .i64 a0_7, .bool a0_8, .bool a0_9, .bool a0_10, .bool a0_11, .bool a0_12, .bool a0_13, .bool a0_14, .bool a0_15, .int .i64 a0_16]) (t := 23) ?hr ?_; (case hd => rfl); (case hg => rfl); (case hr => first | (go_simp; done) | (go_simp; rfl)); intro gb333 hg w77 hbox hb; have n0_ := Aside0.mk (below_step (by repeat (first | (with_reducible first | exact HB.out | apply below_alloc | apply pw_below_drewN | apply below_drew1) | exact HB.out)) hb); have n1_ := Aside0.mk (hbox); have n2_ := Aside0.mk ((by rw [hg]; exact (below_size (by repeat (first | (with_reducible first | exact HB.out | apply below_alloc | apply pw_below_drewN | apply below_drew1) | exact HB.out))) : w.heap.size ≤ gb333)); have n3_ := Aside0.mk ((by rw [hg]; exact (below_size (by repeat (first | (with_reducible first | exact HB.out | apply below_alloc | apply pw_below_drewN | apply below_drew1) | exact HB.out))) : w.heap.size ≤ gb333)); clear HB; have HB := n0_; have BK333 := n1_; have GW333 := n2_; have GE333 := n3_; clear n0_ n1_ n2_ n3_; clear hb hbox hg; have hcz78_0 : w77.cell? ⟨gb333, 0, none⟩ = some (.bool a0_0) := (blk_cell BK333.out 0).trans rfl; have hcz78_1 : w77.cell? ⟨gb333, 1, none⟩ = some (.bool false) := (blk_cell BK333.out 1).trans rfl; have hcz78_2 : w77.cell? ⟨gb333, 2, none⟩ = some (.int .i64 a0_2) := (blk_cell BK333.out 2).trans rfl; have hcz78_3 : w77.cell? ⟨gb333, 3, none⟩ = some (.bool a0_3) := (blk_cell BK333.out 3).trans rfl; have hcz78_4 : w77.cell? ⟨gb333, 4, none⟩ = some (.bool a0_4) := (blk_cell BK333.out 4).trans rfl; have hcz78_5 : w77.cell? ⟨gb333, 5, none⟩ = some (.bool a0_5) := (blk_cell BK333.out 5).trans rfl; have hcz78_6 : w77.cell? ⟨gb333, 6, none⟩ = some (.bool a0_6) := (blk_cell BK333.out 6).trans rfl; have hcz78_7 : w77.cell? ⟨gb333, 7, none⟩ = some (.int .i64 a0_7) := (blk_cell BK333.out 7).trans rfl; have hcz78_8 : w77.cell? ⟨gb333, 8, none⟩ = some (.bool a0_8) := (blk_cell BK333.out 8).trans rfl; have hcz78_9 : w77.cell? ⟨gb333, 9, none⟩ = some (.bool a0_9) := (blk_cell BK333.out 9).trans rfl; have hcz78_10 : w77.cell? ⟨gb333, 10, none⟩ = some (.bool a0_10) := (blk_cell BK333.out 10).trans rfl; have hcz78_11 : w77.cell? ⟨gb333, 11, none⟩ = some (.bool a0_11) := (blk_cell BK333.out 11).trans rfl; have hcz78_12 : w77.cell? ⟨gb333, 12, none⟩ = some (.bool a0_12) := (blk_cell BK333.out 12).trans rfl; have hcz78_13 : w77.cell? ⟨gb333, 13, none⟩ = some (.bool a0_13) := (blk_cell BK333.out 13).trans rfl; have hcz78_14 : w77.cell? ⟨gb333, 14, none⟩ = some (.bool a0_14) := (blk_cell BK333.out 14).trans rfl; have hcz78_15 : w77.cell? ⟨gb333, 15, none⟩ = some (.bool a0_15) := (blk_cell BK333.out 15).trans rfl; have hcz78_16 : w77.cell? ⟨gb333, 16, none⟩ = some (.int .i64 a0_16) := (blk_cell BK333.out 16).trans rfl; have hfz78_0 := blk_frozen BK333.out 0; have hfz78_1 := blk_frozen BK333.out 1; have hfz78_2 := blk_frozen BK333.out 2; have hfz78_3 := blk_frozen BK333.out 3; have hfz78_4 := blk_frozen BK333.out 4; have hfz78_5 := blk_frozen BK333.out 5; have hfz78_6 := blk_frozen BK333.out 6; have hfz78_7 := blk_frozen BK333.out 7; have hfz78_8 := blk_frozen BK333.out 8; have hfz78_9 := blk_frozen BK333.out 9; have hfz78_10 := blk_frozen BK333.out 10; have hfz78_11 := blk_frozen BK333.out 11; have hfz78_12 := blk_frozen BK333.out 12; have hfz78_13 := blk_frozen BK333.out 13; have hfz78_14 := blk_frozen BK333.out 14; have hfz78_15 := blk_frozen BK333.out 15; have hfz78_16 := blk_frozen BK333.out 16) | ((with_reducible refine gate_callee (f := 13) rfl ?_); refine goesL_ (some 8) rfl rfl Try.func13 (by kernel_rfl) rfl #[.agg #[.bool a0_0, .bool false, .int .i64 a0_2, .bool a0_3, .bool a0_4, .bool a0_5, .bool a0_6, .int .i64 a0_7, .bool a0_8, .bool a0_9, .bool a0_10, .bool a0_11, .bool a0_12, .bool a0_13, .bool a0_14, .bool a0_15, .int .i64 a0_16]] rfl (by (try simp only [List.map_toArray, List.map_cons, List.map_nil]); first | done | rfl | (simp only [List.length_drop, List.length_take]; rfl)) ?_; (with_reducible refine (faultplan_Plan.calls k a0_0 false a0_2 a0_3 a0_4 a0_5 a0_6 a0_7 a0_8 a0_9 a0_10 a0_11 a0_12 a0_13 a0_14 a0_15 a0_16 t334 t335 t336 t337 t338 t339 _ A2.out).mono ?_); rintro e w79 ⟨rfl, hb⟩; refine ⟨_, rfl, ?_⟩; have n0_ := Aside0.mk (blk_below (g := gb333) (o := .cells #[.bool a0_0, .bool false, .int .i64 a0_2, .bool a0_3, .bool a0_4, .bool a0_5, .bool a0_6, .int .i64 a0_7, .bool a0_8, .bool a0_9, .bool a0_10, .bool a0_11, .bool a0_12, .bool a0_13, .bool a0_14, .bool a0_15, .int .i64 a0_16] 23 (0, 0)) (by (with_reducible repeat (first | refine blk_drewN ?_ _ | refine blk_drew ?_ | refine blk_alloc ?_ _)); exact BK333.out) hb); have n1_ := Aside0.mk (below_step (by repeat (first | (with_reducible first | exact HB.out | apply below_alloc | apply pw_below_drewN | apply below_drew1 | refine below_set ?_ GE333.out) | exact HB.out)) hb); clear BK333; clear HB; have BK333 := n0_; have HB := n1_; clear n0_ n1_; (try clear hb); (try clear hb2); (try clear hk); (try clear hi)) | ((with_reducible refine gate_dst (N := 3) rfl ?_); refine box_event ?hg (N := 3) ?hd (cs := #[.int .i64 0, .int .i64 0, .int .i64 0, .int .i64 0, .int .i64 0]) (t := 28) ?hr ?_; (case hd => rfl); (case hg => rfl); (case hr => first | (go_simp; done) | (go_simp; rfl)); intro gb340 hg w80 hbox hb; have n0_ := Aside0.mk (blk_below (g := gb333) (o := .cells #[.bool a0_0, .bool false, .int .i64 a0_2, .bool a0_3, .bool a0_4, .bool a0_5, .bool a0_6, .int .i64 a0_7, .bool a0_8, .bool a0_9, .bool a0_10, .bool a0_11, .bool a0_12, .bool a0_13, .bool a0_14, .bool a0_15, .int .i64 a0_16] 23 (0, 0)) (by (with_reducible repeat (first | refine blk_drewN ?_ _ | refine blk_drew ?_ | refine blk_alloc ?_ _)); exact BK333.out) hb); have n1_ := Aside0.mk (below_step (by repeat (first | (with_reducible first | exact HB.out | apply below_alloc | apply pw_below_drewN | apply below_drew1 | refine below_set ?_ GE333.out) | exact HB.out)) hb); have n2_ := Aside0.mk (hbox); have n3_ := Aside0.mk ((by rw [hg]; exact (below_size (by repeat (first | (with_reducible first | exact HB.out | apply below_alloc | apply pw_below_drewN | apply below_drew1 | refine below_set ?_ GE333.out) | exact HB.out))) : w.heap.size ≤ gb340)); have n4_ := Aside0.mk ((by rw [hg]; exact (below_size (by repeat (first | (with_reducible first | exact HB.out | apply below_alloc | apply pw_below_drewN | apply below_drew1 | refine below_set ?_ GE333.out) | exact HB.out))) : w.heap.size ≤ gb340)); have n5_ := Aside0.mk ((by rw [hg]; exact Nat.ne_of_lt (blk_lt (g := gb333) (o := .cells #[.bool a0_0, .bool false, .int .i64 a0_2, .bool a0_3, .bool a0_4, .bool a0_5, .bool a0_6, .int .i64 a0_7, .bool a0_8, .bool a0_9, .bool a0_10, .bool a0_11, .bool a0_12, .bool a0_13, .bool a0_14, .bool a0_15, .int .i64 a0_16] 23 (0, 0)) (by (with_reducible repeat (first | refine blk_drewN ?_ _ | refine blk_drew ?_ | refine blk_alloc ?_ _)); exact BK333.out)) : gb333 ≠ gb340)); have n6_ := Aside0.mk ((by rw [hg]; exact Nat.ne_of_gt (blk_lt (g := gb333) (o := .cells #[.bool a0_0, .bool false, .int .i64 a0_2, .bool a0_3, .bool a0_4, .bool a0_5, .bool a0_6, .int .i64 a0_7, .bool a0_8, .bool a0_9, .bool a0_10, .bool a0_11, .bool a0_12, .bool a0_13, .bool a0_14, .bool a0_15, .int .i64 a0_16] 23 (0, 0)) (by (with_reducible repeat (first | refine blk_drewN ?_ _ | refine blk_drew ?_ | refine blk_alloc ?_ _)); exact BK333.out)) : gb340 ≠ gb333)); clear BK333; clear HB; have BK333 := n0_; have HB := n1_; have BK340 := n2_; have GW340 := n3_; have GE340 := n4_; have NB333_340 := n5_; have NB340_333 := n6_; clear n0_ n1_ n2_ n3_ n4_ n5_ n6_; clear hb hbox hg; have hnb81 := NB340_333.out; have hnc81 := NB333_340.out; have hcz82_0 : w80.cell? ⟨gb340, 0, none⟩ = some (.int .i64 0) := (blk_cell BK340.out 0).trans rfl; have hcz82_1 : w80.cell? ⟨gb340, 1, none⟩ = some (.int .i64 0) := (blk_cell BK340.out 1).trans rfl; have hcz82_2 : w80.cell? ⟨gb340, 2, none⟩ = some (.int .i64 0) := (blk_cell BK340.out 2).trans rfl; have hcz82_3 : w80.cell? ⟨gb340, 3, none⟩ = some (.int .i64 0) := (blk_cell BK340.out 3).trans rfl; have hcz82_4 : w80.cell? ⟨gb340, 4, none⟩ = some (.int .i64 0) := (blk_cell BK340.out 4).trans rfl; have hfz82_0 := blk_frozen BK340.out 0; have hfz82_1 := blk_frozen BK340.out 1; have hfz82_2 := blk_frozen BK340.out 2; have hfz82_3 := blk_frozen BK340.out 3; have hfz82_4 := blk_frozen BK340.out 4; have hcz83_0 : w80.cell? ⟨gb333, 0, none⟩ = some (.bool a0_0) := (blk_cell BK333.out 0).trans rfl; have hcz83_1 : w80.cell? ⟨gb333, 1, none⟩ = some (.bool false) := (blk_cell BK333.out 1).trans rfl; have hcz83_2 : w80.cell? ⟨gb333, 2, none⟩ = some (.int .i64 a0_2) := (blk_cell BK333.out 2).trans rfl; have hcz83_3 : w80.cell? ⟨gb333, 3, none⟩ = some (.bool a0_3) := (blk_cell BK333.out 3).trans rfl; have hcz83_4 : w80.cell? ⟨gb333, 4, none⟩ = some (.bool a0_4) := (blk_cell BK333.out 4).trans rfl; have hcz83_5 : w80.cell? ⟨gb333, 5, none⟩ = some (.bool a0_5) := (blk_cell BK333.out 5).trans rfl; have hcz83_6 : w80.cell? ⟨gb333, 6, none⟩ = some (.bool a0_6) := (blk_cell BK333.out 6).trans rfl; have hcz83_7 : w80.cell? ⟨gb333, 7, none⟩ = some (.int .i64 a0_7) := (blk_cell BK333.out 7).trans rfl; have hcz83_8 : w80.cell? ⟨gb333, 8, none⟩ = some (.bool a0_8) := (blk_cell BK333.out 8).trans rfl; have hcz83_9 : w80.cell? ⟨gb333, 9, none⟩ = some (.bool a0_9) := (blk_cell BK333.out 9).trans rfl; have hcz83_10 : w80.cell? ⟨gb333, 10, none⟩ = some (.bool a0_10) := (blk_cell BK333.out 10).trans rfl; have hcz83_11 : w80.cell? ⟨gb333, 11, none⟩ = some (.bool a0_11) := (blk_cell BK333.out 11).trans rfl; have hcz83_12 : w80.cell? ⟨gb333, 12, none⟩ = some (.bool a0_12) := (blk_cell BK333.out 12).trans rfl; have hcz83_13 : w80.cell? ⟨gb333, 13, none⟩ = some (.bool a0_13) := (blk_cell BK333.out 13).trans rfl; have hcz83_14 : w80.cell? ⟨gb333, 14, none⟩ = some (.bool a0_14) := (blk_cell BK333.out 14).trans rfl; have hcz83_15 : w80.cell? ⟨gb333, 15, none⟩ = some (.bool a0_15) := (blk_cell BK333.out 15).trans rfl; have hcz83_16 : w80.cell? ⟨gb333, 16, none⟩ = some (.int .i64 a0_16) := (blk_cell BK333.out 16).trans rfl; have hfz83_0 := blk_frozen BK333.out 0; have hfz83_1 := blk_frozen BK333.out 1; have hfz83_2 := blk_frozen BK333.out 2; have hfz83_3 := blk_frozen BK333.out 3; have hfz83_4 := blk_frozen BK333.out 4; have hfz83_5 := blk_frozen BK333.out 5; have hfz83_6 := blk_frozen BK333.out 6; have hfz83_7 := blk_frozen BK333.out 7; have hfz83_8 := blk_frozen BK333.out 8; have hfz83_9 := blk_frozen BK333.out 9; have hfz83_10 := blk_frozen BK333.out 10; have hfz83_11 := blk_frozen BK333.out 11; have hfz83_12 := blk_frozen BK333.out 12; have hfz83_13 := blk_frozen BK333.out 13; have hfz83_14 := blk_frozen BK333.out 14; have hfz83_15 := blk_frozen BK333.out 15; have hfz83_16 := blk_frozen BK333.out 16) | (go_at_call 12; (with_reducible refine (estoverslaw26_awake.calls k  t348 _ A76.out).mono ?_); rintro e w84 ⟨rfl, hb⟩; have n0_ := Aside0.mk (blk_below (g := gb333) (o := .cells #[.bool a0_0, .bool false, .int .i64 a0_2, .bool a0_3, .bool a0_4, .bool a0_5, .bool a0_6, .int .i64 a0_7, .bool a0_8, .bool a0_9, .bool a0_10, .bool a0_11, .bool a0_12, .bool a0_13, .bool a0_14, .bool a0_15, .int .i64 a0_16] 23 (0, 0)) (by (with_reducible repeat (first | refine blk_drewN ?_ _ | refine blk_drew ?_ | refine blk_alloc ?_ _)); refine blk_far ?_ NB333_340.out _; (with_reducible repeat (first | refine blk_drewN ?_ _ | refine blk_drew ?_ | refine blk_alloc ?_ _)); refine blk_far ?_ NB333_340.out _; (with_reducible repeat (first | refine blk_drewN ?_ _ | refine blk_drew ?_ | refine blk_alloc ?_ _)); refine blk_far ?_ NB333_340.out _; (with_reducible repeat (first | refine blk_drewN ?_ _ | refine blk_drew ?_ | refine blk_alloc ?_ _)); refine blk_far ?_ NB333_340.out _; (with_reducible repeat (first | refine blk_drewN ?_ _ | refine blk_drew ?_ | refine blk_alloc ?_ _)); refine blk_far ?_ NB333_340.out _; (with_reducible repeat (first | refine blk_drewN ?_ _ | refine blk_drew ?_ | refine blk_alloc ?_ _)); exact BK333.out) hb); have n1_ := Aside0.mk (blk_below (g := gb340) (o := .cells #[.int .i64 t334, .int .i64 t335, .int .i64 t336, .int .i64 t337, .int .i64 t338] 28 (0, 0)) (by (with_reducible repeat (first | refine blk_drewN ?_ _ | refine blk_drew ?_ | refine blk_alloc ?_ _)); refine blk_put (cs := #[.int .i64 t334, .int .i64 t335, .int .i64 t336, .int .i64 t337, .int .i64 0]) ?_ 4 _ rfl; (with_reducible repeat (first | refine blk_drewN ?_ _ | refine blk_drew ?_ | refine blk_alloc ?_ _)); refine blk_put (cs := #[.int .i64 t334, .int .i64 t335, .int .i64 t336, .int .i64 0, .int .i64 0]) ?_ 3 _ rfl; (with_reducible repeat (first | refine blk_drewN ?_ _ | refine blk_drew ?_ | refine blk_alloc ?_ _)); refine blk_put (cs := #[.int .i64 t334, .int .i64 t335, .int .i64 0, .int .i64 0, .int .i64 0]) ?_ 2 _ rfl; (with_reducible repeat (first | refine blk_drewN ?_ _ | refine blk_drew ?_ | refine blk_alloc ?_ _)); refine blk_put (cs := #[.int .i64 t334, .int .i64 0, .int .i64 0, .int .i64 0, .int .i64 0]) ?_ 1 _ rfl; (with_reducible repeat (first | refine blk_drewN ?_ _ | refine blk_drew ?_ | refine blk_alloc ?_ _)); refine blk_put (cs := #[.int .i64 0, .int .i64 0, .int .i64 0, .int .i64 0, .int .i64 0]) ?_ 0 _ rfl; (with_reducible repeat (first | refine blk_drewN ?_ _ | refine blk_drew ?_ | refine blk_alloc ?_ _)); exact BK340.out) hb); have n2_ := Aside0.mk (below_step (by repeat (first | (with_reducible first | exact HB.out | apply below_alloc | apply pw_below_drewN | apply below_drew1 | refine below_set ?_ GE333.out | refine below_set ?_ GE340.out) | exact HB.out)) hb); clear BK333; clear BK340; clear HB; have BK333 := n0_; have BK340 := n1_; have HB := n2_; clear n0_ n1_ n2_; (try clear hb); (try clear hb2); (try clear hk); (try clear hi)))
        go_ret
        exact ⟨by first | rfl | (simp [errW_none, errW_some] <;> rfl) | (simp [*, errW_none, errW_some] <;> rfl), by repeat (first | (with_reducible first | exact HB.out | apply below_alloc | apply pw_below_drewN | apply below_drew1 | refine below_set ?_ GE333.out | refine below_set ?_ GE340.out) | exact HB.out)⟩
      · rw [if_neg c75] at H
        have c75b0 : (t335 == 13) = false := beq_eq_false_iff_ne.mpr c75
        have c75b1 : (t335 != 13) = true := bne_iff_ne.mpr c75
        obtain rfl := Option.some.inj H
        go_enter Try.func8, Try.ntmps8
        go_wp2_with (first | ((with_reducible refine gate_dst (N := 1) rfl ?_); refine box_event ?hg (N := 1) ?hd (cs := #[.bool a0_0, .bool false, .int .i64 a0_2, .bool a0_3, .bool a0_4, .bool a0_5, .bool a0_6, .int .i64 a0_7, .bool a0_8, .bool a0_9, .bool a0_10, .bool a0_11, .bool a0_12, .bool a0_13, .bool a0_14, .bool a0_15, .int .i64 a0_16]) (t := 23) ?hr ?_; (case hd => rfl); (case hg => rfl); (case hr => first | (go_simp; done) | (go_simp; rfl)); intro gb333 hg w85 hbox hb; have n0_ := Aside0.mk (below_step (by repeat (first | (with_reducible first | exact HB.out | apply below_alloc | apply pw_below_drewN | apply below_drew1) | exact HB.out)) hb); have n1_ := Aside0.mk (hbox); have n2_ := Aside0.mk ((by rw [hg]; exact (below_size (by repeat (first | (with_reducible first | exact HB.out | apply below_alloc | apply pw_below_drewN | apply below_drew1) | exact HB.out))) : w.heap.size ≤ gb333)); have n3_ := Aside0.mk ((by rw [hg]; exact (below_size (by repeat (first | (with_reducible first | exact HB.out | apply below_alloc | apply pw_below_drewN | apply below_drew1) | exact HB.out))) : w.heap.size ≤ gb333)); clear HB; have HB := n0_; have BK333 := n1_; have GW333 := n2_; have GE333 := n3_; clear n0_ n1_ n2_ n3_; clear hb hbox hg; have hcz86_0 : w85.cell? ⟨gb333, 0, none⟩ = some (.bool a0_0) := (blk_cell BK333.out 0).trans rfl; have hcz86_1 : w85.cell? ⟨gb333, 1, none⟩ = some (.bool false) := (blk_cell BK333.out 1).trans rfl; have hcz86_2 : w85.cell? ⟨gb333, 2, none⟩ = some (.int .i64 a0_2) := (blk_cell BK333.out 2).trans rfl; have hcz86_3 : w85.cell? ⟨gb333, 3, none⟩ = some (.bool a0_3) := (blk_cell BK333.out 3).trans rfl; have hcz86_4 : w85.cell? ⟨gb333, 4, none⟩ = some (.bool a0_4) := (blk_cell BK333.out 4).trans rfl; have hcz86_5 : w85.cell? ⟨gb333, 5, none⟩ = some (.bool a0_5) := (blk_cell BK333.out 5).trans rfl; have hcz86_6 : w85.cell? ⟨gb333, 6, none⟩ = some (.bool a0_6) := (blk_cell BK333.out 6).trans rfl; have hcz86_7 : w85.cell? ⟨gb333, 7, none⟩ = some (.int .i64 a0_7) := (blk_cell BK333.out 7).trans rfl; have hcz86_8 : w85.cell? ⟨gb333, 8, none⟩ = some (.bool a0_8) := (blk_cell BK333.out 8).trans rfl; have hcz86_9 : w85.cell? ⟨gb333, 9, none⟩ = some (.bool a0_9) := (blk_cell BK333.out 9).trans rfl; have hcz86_10 : w85.cell? ⟨gb333, 10, none⟩ = some (.bool a0_10) := (blk_cell BK333.out 10).trans rfl; have hcz86_11 : w85.cell? ⟨gb333, 11, none⟩ = some (.bool a0_11) := (blk_cell BK333.out 11).trans rfl; have hcz86_12 : w85.cell? ⟨gb333, 12, none⟩ = some (.bool a0_12) := (blk_cell BK333.out 12).trans rfl; have hcz86_13 : w85.cell? ⟨gb333, 13, none⟩ = some (.bool a0_13) := (blk_cell BK333.out 13).trans rfl; have hcz86_14 : w85.cell? ⟨gb333, 14, none⟩ = some (.bool a0_14) := (blk_cell BK333.out 14).trans rfl; have hcz86_15 : w85.cell? ⟨gb333, 15, none⟩ = some (.bool a0_15) := (blk_cell BK333.out 15).trans rfl; have hcz86_16 : w85.cell? ⟨gb333, 16, none⟩ = some (.int .i64 a0_16) := (blk_cell BK333.out 16).trans rfl; have hfz86_0 := blk_frozen BK333.out 0; have hfz86_1 := blk_frozen BK333.out 1; have hfz86_2 := blk_frozen BK333.out 2; have hfz86_3 := blk_frozen BK333.out 3; have hfz86_4 := blk_frozen BK333.out 4; have hfz86_5 := blk_frozen BK333.out 5; have hfz86_6 := blk_frozen BK333.out 6; have hfz86_7 := blk_frozen BK333.out 7; have hfz86_8 := blk_frozen BK333.out 8; have hfz86_9 := blk_frozen BK333.out 9; have hfz86_10 := blk_frozen BK333.out 10; have hfz86_11 := blk_frozen BK333.out 11; have hfz86_12 := blk_frozen BK333.out 12; have hfz86_13 := blk_frozen BK333.out 13; have hfz86_14 := blk_frozen BK333.out 14; have hfz86_15 := blk_frozen BK333.out 15; have hfz86_16 := blk_frozen BK333.out 16) | ((with_reducible refine gate_callee (f := 13) rfl ?_); refine goesL_ (some 8) rfl rfl Try.func13 (by kernel_rfl) rfl #[.agg #[.bool a0_0, .bool false, .int .i64 a0_2, .bool a0_3, .bool a0_4, .bool a0_5, .bool a0_6, .int .i64 a0_7, .bool a0_8, .bool a0_9, .bool a0_10, .bool a0_11, .bool a0_12, .bool a0_13, .bool a0_14, .bool a0_15, .int .i64 a0_16]] rfl (by (try simp only [List.map_toArray, List.map_cons, List.map_nil]); first | done | rfl | (simp only [List.length_drop, List.length_take]; rfl)) ?_; (with_reducible refine (faultplan_Plan.calls k a0_0 false a0_2 a0_3 a0_4 a0_5 a0_6 a0_7 a0_8 a0_9 a0_10 a0_11 a0_12 a0_13 a0_14 a0_15 a0_16 t334 t335 t336 t337 t338 t339 _ A2.out).mono ?_); rintro e w87 ⟨rfl, hb⟩; refine ⟨_, rfl, ?_⟩; have n0_ := Aside0.mk (blk_below (g := gb333) (o := .cells #[.bool a0_0, .bool false, .int .i64 a0_2, .bool a0_3, .bool a0_4, .bool a0_5, .bool a0_6, .int .i64 a0_7, .bool a0_8, .bool a0_9, .bool a0_10, .bool a0_11, .bool a0_12, .bool a0_13, .bool a0_14, .bool a0_15, .int .i64 a0_16] 23 (0, 0)) (by (with_reducible repeat (first | refine blk_drewN ?_ _ | refine blk_drew ?_ | refine blk_alloc ?_ _)); exact BK333.out) hb); have n1_ := Aside0.mk (below_step (by repeat (first | (with_reducible first | exact HB.out | apply below_alloc | apply pw_below_drewN | apply below_drew1 | refine below_set ?_ GE333.out) | exact HB.out)) hb); clear BK333; clear HB; have BK333 := n0_; have HB := n1_; clear n0_ n1_; (try clear hb); (try clear hb2); (try clear hk); (try clear hi)) | ((with_reducible refine gate_dst (N := 3) rfl ?_); refine box_event ?hg (N := 3) ?hd (cs := #[.int .i64 0, .int .i64 0, .int .i64 0, .int .i64 0, .int .i64 0]) (t := 28) ?hr ?_; (case hd => rfl); (case hg => rfl); (case hr => first | (go_simp; done) | (go_simp; rfl)); intro gb340 hg w88 hbox hb; have n0_ := Aside0.mk (blk_below (g := gb333) (o := .cells #[.bool a0_0, .bool false, .int .i64 a0_2, .bool a0_3, .bool a0_4, .bool a0_5, .bool a0_6, .int .i64 a0_7, .bool a0_8, .bool a0_9, .bool a0_10, .bool a0_11, .bool a0_12, .bool a0_13, .bool a0_14, .bool a0_15, .int .i64 a0_16] 23 (0, 0)) (by (with_reducible repeat (first | refine blk_drewN ?_ _ | refine blk_drew ?_ | refine blk_alloc ?_ _)); exact BK333.out) hb); have n1_ := Aside0.mk (below_step (by repeat (first | (with_reducible first | exact HB.out | apply below_alloc | apply pw_below_drewN | apply below_drew1 | refine below_set ?_ GE333.out) | exact HB.out)) hb); have n2_ := Aside0.mk (hbox); have n3_ := Aside0.mk ((by rw [hg]; exact (below_size (by repeat (first | (with_reducible first | exact HB.out | apply below_alloc | apply pw_below_drewN | apply below_drew1 | refine below_set ?_ GE333.out) | exact HB.out))) : w.heap.size ≤ gb340)); have n4_ := Aside0.mk ((by rw [hg]; exact (below_size (by repeat (first | (with_reducible first | exact HB.out | apply below_alloc | apply pw_below_drewN | apply below_drew1 | refine below_set ?_ GE333.out) | exact HB.out))) : w.heap.size ≤ gb340)); have n5_ := Aside0.mk ((by rw [hg]; exact Nat.ne_of_lt (blk_lt (g := gb333) (o := .cells #[.bool a0_0, .bool false, .int .i64 a0_2, .bool a0_3, .bool a0_4, .bool a0_5, .bool a0_6, .int .i64 a0_7, .bool a0_8, .bool a0_9, .bool a0_10, .bool a0_11, .bool a0_12, .bool a0_13, .bool a0_14, .bool a0_15, .int .i64 a0_16] 23 (0, 0)) (by (with_reducible repeat (first | refine blk_drewN ?_ _ | refine blk_drew ?_ | refine blk_alloc ?_ _)); exact BK333.out)) : gb333 ≠ gb340)); have n6_ := Aside0.mk ((by rw [hg]; exact Nat.ne_of_gt (blk_lt (g := gb333) (o := .cells #[.bool a0_0, .bool false, .int .i64 a0_2, .bool a0_3, .bool a0_4, .bool a0_5, .bool a0_6, .int .i64 a0_7, .bool a0_8, .bool a0_9, .bool a0_10, .bool a0_11, .bool a0_12, .bool a0_13, .bool a0_14, .bool a0_15, .int .i64 a0_16] 23 (0, 0)) (by (with_reducible repeat (first | refine blk_drewN ?_ _ | refine blk_drew ?_ | refine blk_alloc ?_ _)); exact BK333.out)) : gb340 ≠ gb333)); clear BK333; clear HB; have BK333 := n0_; have HB := n1_; have BK340 := n2_; have GW340 := n3_; have GE340 := n4_; have NB333_340 := n5_; have NB340_333 := n6_; clear n0_ n1_ n2_ n3_ n4_ n5_ n6_; clear hb hbox hg; have hnb89 := NB340_333.out; have hnc89 := NB333_340.out; have hcz90_0 : w88.cell? ⟨gb340, 0, none⟩ = some (.int .i64 0) := (blk_cell BK340.out 0).trans rfl; have hcz90_1 : w88.cell? ⟨gb340, 1, none⟩ = some (.int .i64 0) := (blk_cell BK340.out 1).trans rfl; have hcz90_2 : w88.cell? ⟨gb340, 2, none⟩ = some (.int .i64 0) := (blk_cell BK340.out 2).trans rfl; have hcz90_3 : w88.cell? ⟨gb340, 3, none⟩ = some (.int .i64 0) := (blk_cell BK340.out 3).trans rfl; have hcz90_4 : w88.cell? ⟨gb340, 4, none⟩ = some (.int .i64 0) := (blk_cell BK340.out 4).trans rfl; have hfz90_0 := blk_frozen BK340.out 0; have hfz90_1 := blk_frozen BK340.out 1; have hfz90_2 := blk_frozen BK340.out 2; have hfz90_3 := blk_frozen BK340.out 3; have hfz90_4 := blk_frozen BK340.out 4; have hcz91_0 : w88.cell? ⟨gb333, 0, none⟩ = some (.bool a0_0) := (blk_cell BK333.out 0).trans rfl; have hcz91_1 : w88.cell? ⟨gb333, 1, none⟩ = some (.bool false) := (blk_cell BK333.out 1).trans rfl; have hcz91_2 : w88.cell? ⟨gb333, 2, none⟩ = some (.int .i64 a0_2) := (blk_cell BK333.out 2).trans rfl; have hcz91_3 : w88.cell? ⟨gb333, 3, none⟩ = some (.bool a0_3) := (blk_cell BK333.out 3).trans rfl; have hcz91_4 : w88.cell? ⟨gb333, 4, none⟩ = some (.bool a0_4) := (blk_cell BK333.out 4).trans rfl; have hcz91_5 : w88.cell? ⟨gb333, 5, none⟩ = some (.bool a0_5) := (blk_cell BK333.out 5).trans rfl; have hcz91_6 : w88.cell? ⟨gb333, 6, none⟩ = some (.bool a0_6) := (blk_cell BK333.out 6).trans rfl; have hcz91_7 : w88.cell? ⟨gb333, 7, none⟩ = some (.int .i64 a0_7) := (blk_cell BK333.out 7).trans rfl; have hcz91_8 : w88.cell? ⟨gb333, 8, none⟩ = some (.bool a0_8) := (blk_cell BK333.out 8).trans rfl; have hcz91_9 : w88.cell? ⟨gb333, 9, none⟩ = some (.bool a0_9) := (blk_cell BK333.out 9).trans rfl; have hcz91_10 : w88.cell? ⟨gb333, 10, none⟩ = some (.bool a0_10) := (blk_cell BK333.out 10).trans rfl; have hcz91_11 : w88.cell? ⟨gb333, 11, none⟩ = some (.bool a0_11) := (blk_cell BK333.out 11).trans rfl; have hcz91_12 : w88.cell? ⟨gb333, 12, none⟩ = some (.bool a0_12) := (blk_cell BK333.out 12).trans rfl; have hcz91_13 : w88.cell? ⟨gb333, 13, none⟩ = some (.bool a0_13) := (blk_cell BK333.out 13).trans rfl; have hcz91_14 : w88.cell? ⟨gb333, 14, none⟩ = some (.bool a0_14) := (blk_cell BK333.out 14).trans rfl; have hcz91_15 : w88.cell? ⟨gb333, 15, none⟩ = some (.bool a0_15) := (blk_cell BK333.out 15).trans rfl; have hcz91_16 : w88.cell? ⟨gb333, 16, none⟩ = some (.int .i64 a0_16) := (blk_cell BK333.out 16).trans rfl; have hfz91_0 := blk_frozen BK333.out 0; have hfz91_1 := blk_frozen BK333.out 1; have hfz91_2 := blk_frozen BK333.out 2; have hfz91_3 := blk_frozen BK333.out 3; have hfz91_4 := blk_frozen BK333.out 4; have hfz91_5 := blk_frozen BK333.out 5; have hfz91_6 := blk_frozen BK333.out 6; have hfz91_7 := blk_frozen BK333.out 7; have hfz91_8 := blk_frozen BK333.out 8; have hfz91_9 := blk_frozen BK333.out 9; have hfz91_10 := blk_frozen BK333.out 10; have hfz91_11 := blk_frozen BK333.out 11; have hfz91_12 := blk_frozen BK333.out 12; have hfz91_13 := blk_frozen BK333.out 13; have hfz91_14 := blk_frozen BK333.out 14; have hfz91_15 := blk_frozen BK333.out 15; have hfz91_16 := blk_frozen BK333.out 16))
        go_ret
        exact ⟨by first | rfl | (simp [errW_none, errW_some] <;> rfl) | (simp [*, errW_none, errW_some] <;> rfl), by repeat (first | (with_reducible first | exact HB.out | apply below_alloc | apply pw_below_drewN | apply below_drew1 | refine below_set ?_ GE333.out | refine below_set ?_ GE340.out) | exact HB.out)⟩
  · rw [if_neg c3] at H
    have c3b0 : (t339 == 0) = false := beq_eq_false_iff_ne.mpr c3
    have c3b1 : (t339 != 0) = true := bne_iff_ne.mpr c3
    replace H := Option.bind_eq_some_iff.mp H
    obtain ⟨t341, A920, H⟩ := H
    replace H : (some t341) = some r := H
    have A92 := Aside0.mk A920
    clear A920
    obtain rfl := Option.some.inj H
    go_enter Try.func8, Try.ntmps8
    go_wp2_with (first | ((with_reducible refine gate_dst (N := 1) rfl ?_); refine box_event ?hg (N := 1) ?hd (cs := #[.bool a0_0, .bool a0_1, .int .i64 a0_2, .bool a0_3, .bool a0_4, .bool a0_5, .bool a0_6, .int .i64 a0_7, .bool a0_8, .bool a0_9, .bool a0_10, .bool a0_11, .bool a0_12, .bool a0_13, .bool a0_14, .bool a0_15, .int .i64 a0_16]) (t := 23) ?hr ?_; (case hd => rfl); (case hg => rfl); (case hr => first | (go_simp; done) | (go_simp; rfl)); intro gb333 hg w93 hbox hb; have n0_ := Aside0.mk (below_step (by repeat (first | (with_reducible first | exact HB.out | apply below_alloc | apply pw_below_drewN | apply below_drew1) | exact HB.out)) hb); have n1_ := Aside0.mk (hbox); have n2_ := Aside0.mk ((by rw [hg]; exact (below_size (by repeat (first | (with_reducible first | exact HB.out | apply below_alloc | apply pw_below_drewN | apply below_drew1) | exact HB.out))) : w.heap.size ≤ gb333)); have n3_ := Aside0.mk ((by rw [hg]; exact (below_size (by repeat (first | (with_reducible first | exact HB.out | apply below_alloc | apply pw_below_drewN | apply below_drew1) | exact HB.out))) : w.heap.size ≤ gb333)); clear HB; have HB := n0_; have BK333 := n1_; have GW333 := n2_; have GE333 := n3_; clear n0_ n1_ n2_ n3_; clear hb hbox hg; have hcz94_0 : w93.cell? ⟨gb333, 0, none⟩ = some (.bool a0_0) := (blk_cell BK333.out 0).trans rfl; have hcz94_1 : w93.cell? ⟨gb333, 1, none⟩ = some (.bool a0_1) := (blk_cell BK333.out 1).trans rfl; have hcz94_2 : w93.cell? ⟨gb333, 2, none⟩ = some (.int .i64 a0_2) := (blk_cell BK333.out 2).trans rfl; have hcz94_3 : w93.cell? ⟨gb333, 3, none⟩ = some (.bool a0_3) := (blk_cell BK333.out 3).trans rfl; have hcz94_4 : w93.cell? ⟨gb333, 4, none⟩ = some (.bool a0_4) := (blk_cell BK333.out 4).trans rfl; have hcz94_5 : w93.cell? ⟨gb333, 5, none⟩ = some (.bool a0_5) := (blk_cell BK333.out 5).trans rfl; have hcz94_6 : w93.cell? ⟨gb333, 6, none⟩ = some (.bool a0_6) := (blk_cell BK333.out 6).trans rfl; have hcz94_7 : w93.cell? ⟨gb333, 7, none⟩ = some (.int .i64 a0_7) := (blk_cell BK333.out 7).trans rfl; have hcz94_8 : w93.cell? ⟨gb333, 8, none⟩ = some (.bool a0_8) := (blk_cell BK333.out 8).trans rfl; have hcz94_9 : w93.cell? ⟨gb333, 9, none⟩ = some (.bool a0_9) := (blk_cell BK333.out 9).trans rfl; have hcz94_10 : w93.cell? ⟨gb333, 10, none⟩ = some (.bool a0_10) := (blk_cell BK333.out 10).trans rfl; have hcz94_11 : w93.cell? ⟨gb333, 11, none⟩ = some (.bool a0_11) := (blk_cell BK333.out 11).trans rfl; have hcz94_12 : w93.cell? ⟨gb333, 12, none⟩ = some (.bool a0_12) := (blk_cell BK333.out 12).trans rfl; have hcz94_13 : w93.cell? ⟨gb333, 13, none⟩ = some (.bool a0_13) := (blk_cell BK333.out 13).trans rfl; have hcz94_14 : w93.cell? ⟨gb333, 14, none⟩ = some (.bool a0_14) := (blk_cell BK333.out 14).trans rfl; have hcz94_15 : w93.cell? ⟨gb333, 15, none⟩ = some (.bool a0_15) := (blk_cell BK333.out 15).trans rfl; have hcz94_16 : w93.cell? ⟨gb333, 16, none⟩ = some (.int .i64 a0_16) := (blk_cell BK333.out 16).trans rfl; have hfz94_0 := blk_frozen BK333.out 0; have hfz94_1 := blk_frozen BK333.out 1; have hfz94_2 := blk_frozen BK333.out 2; have hfz94_3 := blk_frozen BK333.out 3; have hfz94_4 := blk_frozen BK333.out 4; have hfz94_5 := blk_frozen BK333.out 5; have hfz94_6 := blk_frozen BK333.out 6; have hfz94_7 := blk_frozen BK333.out 7; have hfz94_8 := blk_frozen BK333.out 8; have hfz94_9 := blk_frozen BK333.out 9; have hfz94_10 := blk_frozen BK333.out 10; have hfz94_11 := blk_frozen BK333.out 11; have hfz94_12 := blk_frozen BK333.out 12; have hfz94_13 := blk_frozen BK333.out 13; have hfz94_14 := blk_frozen BK333.out 14; have hfz94_15 := blk_frozen BK333.out 15; have hfz94_16 := blk_frozen BK333.out 16) | ((with_reducible refine gate_callee (f := 13) rfl ?_); refine goesL_ (some 8) rfl rfl Try.func13 (by kernel_rfl) rfl #[.agg #[.bool a0_0, .bool a0_1, .int .i64 a0_2, .bool a0_3, .bool a0_4, .bool a0_5, .bool a0_6, .int .i64 a0_7, .bool a0_8, .bool a0_9, .bool a0_10, .bool a0_11, .bool a0_12, .bool a0_13, .bool a0_14, .bool a0_15, .int .i64 a0_16]] rfl (by (try simp only [List.map_toArray, List.map_cons, List.map_nil]); first | done | rfl | (simp only [List.length_drop, List.length_take]; rfl)) ?_; (with_reducible refine (faultplan_Plan.calls k a0_0 a0_1 a0_2 a0_3 a0_4 a0_5 a0_6 a0_7 a0_8 a0_9 a0_10 a0_11 a0_12 a0_13 a0_14 a0_15 a0_16 t334 t335 t336 t337 t338 t339 _ A2.out).mono ?_); rintro e w95 ⟨rfl, hb⟩; refine ⟨_, rfl, ?_⟩; have n0_ := Aside0.mk (blk_below (g := gb333) (o := .cells #[.bool a0_0, .bool a0_1, .int .i64 a0_2, .bool a0_3, .bool a0_4, .bool a0_5, .bool a0_6, .int .i64 a0_7, .bool a0_8, .bool a0_9, .bool a0_10, .bool a0_11, .bool a0_12, .bool a0_13, .bool a0_14, .bool a0_15, .int .i64 a0_16] 23 (0, 0)) (by (with_reducible repeat (first | refine blk_drewN ?_ _ | refine blk_drew ?_ | refine blk_alloc ?_ _)); exact BK333.out) hb); have n1_ := Aside0.mk (below_step (by repeat (first | (with_reducible first | exact HB.out | apply below_alloc | apply pw_below_drewN | apply below_drew1 | refine below_set ?_ GE333.out) | exact HB.out)) hb); clear BK333; clear HB; have BK333 := n0_; have HB := n1_; clear n0_ n1_; (try clear hb); (try clear hb2); (try clear hk); (try clear hi)) | ((with_reducible refine gate_dst (N := 3) rfl ?_); refine box_event ?hg (N := 3) ?hd (cs := #[.int .i64 0, .int .i64 0, .int .i64 0, .int .i64 0, .int .i64 0]) (t := 28) ?hr ?_; (case hd => rfl); (case hg => rfl); (case hr => first | (go_simp; done) | (go_simp; rfl)); intro gb340 hg w96 hbox hb; have n0_ := Aside0.mk (blk_below (g := gb333) (o := .cells #[.bool a0_0, .bool a0_1, .int .i64 a0_2, .bool a0_3, .bool a0_4, .bool a0_5, .bool a0_6, .int .i64 a0_7, .bool a0_8, .bool a0_9, .bool a0_10, .bool a0_11, .bool a0_12, .bool a0_13, .bool a0_14, .bool a0_15, .int .i64 a0_16] 23 (0, 0)) (by (with_reducible repeat (first | refine blk_drewN ?_ _ | refine blk_drew ?_ | refine blk_alloc ?_ _)); exact BK333.out) hb); have n1_ := Aside0.mk (below_step (by repeat (first | (with_reducible first | exact HB.out | apply below_alloc | apply pw_below_drewN | apply below_drew1 | refine below_set ?_ GE333.out) | exact HB.out)) hb); have n2_ := Aside0.mk (hbox); have n3_ := Aside0.mk ((by rw [hg]; exact (below_size (by repeat (first | (with_reducible first | exact HB.out | apply below_alloc | apply pw_below_drewN | apply below_drew1 | refine below_set ?_ GE333.out) | exact HB.out))) : w.heap.size ≤ gb340)); have n4_ := Aside0.mk ((by rw [hg]; exact (below_size (by repeat (first | (with_reducible first | exact HB.out | apply below_alloc | apply pw_below_drewN | apply below_drew1 | refine below_set ?_ GE333.out) | exact HB.out))) : w.heap.size ≤ gb340)); have n5_ := Aside0.mk ((by rw [hg]; exact Nat.ne_of_lt (blk_lt (g := gb333) (o := .cells #[.bool a0_0, .bool a0_1, .int .i64 a0_2, .bool a0_3, .bool a0_4, .bool a0_5, .bool a0_6, .int .i64 a0_7, .bool a0_8, .bool a0_9, .bool a0_10, .bool a0_11, .bool a0_12, .bool a0_13, .bool a0_14, .bool a0_15, .int .i64 a0_16] 23 (0, 0)) (by (with_reducible repeat (first | refine blk_drewN ?_ _ | refine blk_drew ?_ | refine blk_alloc ?_ _)); exact BK333.out)) : gb333 ≠ gb340)); have n6_ := Aside0.mk ((by rw [hg]; exact Nat.ne_of_gt (blk_lt (g := gb333) (o := .cells #[.bool a0_0, .bool a0_1, .int .i64 a0_2, .bool a0_3, .bool a0_4, .bool a0_5, .bool a0_6, .int .i64 a0_7, .bool a0_8, .bool a0_9, .bool a0_10, .bool a0_11, .bool a0_12, .bool a0_13, .bool a0_14, .bool a0_15, .int .i64 a0_16] 23 (0, 0)) (by (with_reducible repeat (first | refine blk_drewN ?_ _ | refine blk_drew ?_ | refine blk_alloc ?_ _)); exact BK333.out)) : gb340 ≠ gb333)); clear BK333; clear HB; have BK333 := n0_; have HB := n1_; have BK340 := n2_; have GW340 := n3_; have GE340 := n4_; have NB333_340 := n5_; have NB340_333 := n6_; clear n0_ n1_ n2_ n3_ n4_ n5_ n6_; clear hb hbox hg; have hnb97 := NB340_333.out; have hnc97 := NB333_340.out; have hcz98_0 : w96.cell? ⟨gb340, 0, none⟩ = some (.int .i64 0) := (blk_cell BK340.out 0).trans rfl; have hcz98_1 : w96.cell? ⟨gb340, 1, none⟩ = some (.int .i64 0) := (blk_cell BK340.out 1).trans rfl; have hcz98_2 : w96.cell? ⟨gb340, 2, none⟩ = some (.int .i64 0) := (blk_cell BK340.out 2).trans rfl; have hcz98_3 : w96.cell? ⟨gb340, 3, none⟩ = some (.int .i64 0) := (blk_cell BK340.out 3).trans rfl; have hcz98_4 : w96.cell? ⟨gb340, 4, none⟩ = some (.int .i64 0) := (blk_cell BK340.out 4).trans rfl; have hfz98_0 := blk_frozen BK340.out 0; have hfz98_1 := blk_frozen BK340.out 1; have hfz98_2 := blk_frozen BK340.out 2; have hfz98_3 := blk_frozen BK340.out 3; have hfz98_4 := blk_frozen BK340.out 4) | ((with_reducible refine gate_callee (f := 12) rfl ?_); refine goesL_ (some 13) rfl rfl Try.func12 (by kernel_rfl) rfl #[] rfl (by (try simp only [List.map_toArray, List.map_cons, List.map_nil]); first | done | rfl | (simp only [List.length_drop, List.length_take]; rfl)) ?_; (with_reducible refine (estoverslaw26_awake.calls k  t341 _ A92.out).mono ?_); rintro e w99 ⟨rfl, hb⟩; refine ⟨_, rfl, ?_⟩; have n0_ := Aside0.mk (blk_below (g := gb333) (o := .cells #[.bool a0_0, .bool a0_1, .int .i64 a0_2, .bool a0_3, .bool a0_4, .bool a0_5, .bool a0_6, .int .i64 a0_7, .bool a0_8, .bool a0_9, .bool a0_10, .bool a0_11, .bool a0_12, .bool a0_13, .bool a0_14, .bool a0_15, .int .i64 a0_16] 23 (0, 0)) (by (with_reducible repeat (first | refine blk_drewN ?_ _ | refine blk_drew ?_ | refine blk_alloc ?_ _)); refine blk_far ?_ NB333_340.out _; (with_reducible repeat (first | refine blk_drewN ?_ _ | refine blk_drew ?_ | refine blk_alloc ?_ _)); refine blk_far ?_ NB333_340.out _; (with_reducible repeat (first | refine blk_drewN ?_ _ | refine blk_drew ?_ | refine blk_alloc ?_ _)); refine blk_far ?_ NB333_340.out _; (with_reducible repeat (first | refine blk_drewN ?_ _ | refine blk_drew ?_ | refine blk_alloc ?_ _)); refine blk_far ?_ NB333_340.out _; (with_reducible repeat (first | refine blk_drewN ?_ _ | refine blk_drew ?_ | refine blk_alloc ?_ _)); refine blk_far ?_ NB333_340.out _; (with_reducible repeat (first | refine blk_drewN ?_ _ | refine blk_drew ?_ | refine blk_alloc ?_ _)); exact BK333.out) hb); have n1_ := Aside0.mk (blk_below (g := gb340) (o := .cells #[.int .i64 t334, .int .i64 t335, .int .i64 t336, .int .i64 t337, .int .i64 t338] 28 (0, 0)) (by (with_reducible repeat (first | refine blk_drewN ?_ _ | refine blk_drew ?_ | refine blk_alloc ?_ _)); refine blk_put (cs := #[.int .i64 t334, .int .i64 t335, .int .i64 t336, .int .i64 t337, .int .i64 0]) ?_ 4 _ rfl; (with_reducible repeat (first | refine blk_drewN ?_ _ | refine blk_drew ?_ | refine blk_alloc ?_ _)); refine blk_put (cs := #[.int .i64 t334, .int .i64 t335, .int .i64 t336, .int .i64 0, .int .i64 0]) ?_ 3 _ rfl; (with_reducible repeat (first | refine blk_drewN ?_ _ | refine blk_drew ?_ | refine blk_alloc ?_ _)); refine blk_put (cs := #[.int .i64 t334, .int .i64 t335, .int .i64 0, .int .i64 0, .int .i64 0]) ?_ 2 _ rfl; (with_reducible repeat (first | refine blk_drewN ?_ _ | refine blk_drew ?_ | refine blk_alloc ?_ _)); refine blk_put (cs := #[.int .i64 t334, .int .i64 0, .int .i64 0, .int .i64 0, .int .i64 0]) ?_ 1 _ rfl; (with_reducible repeat (first | refine blk_drewN ?_ _ | refine blk_drew ?_ | refine blk_alloc ?_ _)); refine blk_put (cs := #[.int .i64 0, .int .i64 0, .int .i64 0, .int .i64 0, .int .i64 0]) ?_ 0 _ rfl; (with_reducible repeat (first | refine blk_drewN ?_ _ | refine blk_drew ?_ | refine blk_alloc ?_ _)); exact BK340.out) hb); have n2_ := Aside0.mk (below_step (by repeat (first | (with_reducible first | exact HB.out | apply below_alloc | apply pw_below_drewN | apply below_drew1 | refine below_set ?_ GE333.out | refine below_set ?_ GE340.out) | exact HB.out)) hb); clear BK333; clear BK340; clear HB; have BK333 := n0_; have BK340 := n1_; have HB := n2_; clear n0_ n1_ n2_; (try clear hb); (try clear hb2); (try clear hk); (try clear hi)))
    go_ret
    exact ⟨by first | rfl | (simp [errW_none, errW_some] <;> rfl) | (simp [*, errW_none, errW_some] <;> rfl), by repeat (first | (with_reducible first | exact HB.out | apply below_alloc | apply pw_below_drewN | apply below_drew1 | refine below_set ?_ GE333.out | refine below_set ?_ GE340.out) | exact HB.out)⟩

end Go.Proofs.Ytfobedaepflidaa.F

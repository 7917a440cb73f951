-- Written by a program of this session (own_print.py) that runs the kit's printer. Lean checks it.
import Derived.Test.YtkgknibciclmjaaI0
import Derived.Test.YtkgknibciclmjaaI3
import Derived.Test.YtkgknibciclmjaaI15
import Derived.Test.YtkgknibciclmjaaI17
import Derived.Test.YtkgknibciclmjaaI30
import Derived.Test.YtkgknibciclmjaaI35
import Derived.Test.YtkgknibciclmjaaI36
namespace Go.Proofs.Ytkgknibciclmjaa.I
open Go.RowKit Go.Proofs.YtkgknibciclmjaaW.PrintWords Go.Proofs.YtkgknibciclmjaaW.PrintLast Go.Proofs.YtkgknibciclmjaaW.PrintMore
attribute [local go_sem] max2_int min2_int max_two min_two max_three min_three max_four min_four   -- for this text's walks alone
set_option linter.unusedVariables false
set_option linter.unusedSimpArgs false

/-! ### estoverslaw02_IntervalFirst: function 6 -/
mutual
def estoverslaw02_IntervalFirst.j0 : Nat → List (S28) → Bool → Int → Int → Int → Option (Bool)
  | 0, _, _, _, _, _ => none
  | k + 1, x0, x36, x422000, x422001, x422002 => if x36 = true then ((estoverslaw02_awake.f k).bind fun t424 => (some t424)) else ((interval_FirstGap.f k x0 x422000 x422001 x422002).bind fun bt425 => ((interval_Gaps.f k x0 x422000 x422001).bind fun bt427 => (if bt427.2 = 0 then (if bt425.2 = 0 then (estoverslaw02_IntervalFirst.j1 k x0 bt425.1 bt425.2 bt427.1 false x422000 x422001 x422002) else (estoverslaw02_IntervalFirst.j1 k x0 bt425.1 bt425.2 bt427.1 (bt425.2 != 6) x422000 x422001 x422002)) else (estoverslaw02_IntervalFirst.j1 k x0 bt425.1 bt425.2 bt427.1 true x422000 x422001 x422002))))
def estoverslaw02_IntervalFirst.j1 : Nat → List (S28) → Int → Int → List (S28) → Bool → Int → Int → Int → Option (Bool)
  | 0, _, _, _, _, _, _, _, _ => none
  | k + 1, x0, x5, x6, x7, x67, x422000, x422001, x422002 => if x67 = true then (some false) else (estoverslaw02_IntervalFirst.l0 k x0 x5 x6 x7 0 x422000 x422001 x422002)
def estoverslaw02_IntervalFirst.l0 : Nat → List (S28) → Int → Int → List (S28) → Int → Int → Int → Int → Option (Bool)
  | 0, _, _, _, _, _, _, _, _ => none
  | k + 1, x0, x5, x6, x7, x9, x422000, x422001, x422002 => if x9 < (x7.length : Int) then (if 0 ≤ x9 then (if ((rd_T28 x7 x9).f0) ≥ ((rd_T28 x7 x9).f1) then (some false) else (if (IntKind.u64.wrap ((IntKind.u64.wrap ((rd_T28 x7 x9).f1)) - (IntKind.u64.wrap ((rd_T28 x7 x9).f0)))) ≥ (IntKind.u64.wrap (x422002)) then (if x6 = 0 then (if ((rd_T28 x7 x9).f0) < x5 then (some false) else (estoverslaw02_IntervalFirst.l0 k x0 x5 x6 x7 (wrap64 (x9 + 1)) x422000 x422001 x422002)) else (some false)) else (estoverslaw02_IntervalFirst.l0 k x0 x5 x6 x7 (wrap64 (x9 + 1)) x422000 x422001 x422002))) else (none)) else (if x6 = 6 then (if x5 = 0 then ((estoverslaw02_awake.f k).bind fun t436 => (some t436)) else (some false)) else (if x5 < x422000 then (estoverslaw02_IntervalFirst.j3 k x0 x5 true x422000 x422001 x422002) else (if x5 ≥ x422001 then (estoverslaw02_IntervalFirst.j3 k x0 x5 true x422000 x422001 x422002) else (estoverslaw02_IntervalFirst.j3 k x0 x5 (decide ((IntKind.u64.wrap ((IntKind.u64.wrap (x422001)) - (IntKind.u64.wrap (x5)))) < (IntKind.u64.wrap (x422002)))) x422000 x422001 x422002))))
def estoverslaw02_IntervalFirst.j3 : Nat → List (S28) → Int → Bool → Int → Int → Int → Option (Bool)
  | 0, _, _, _, _, _, _ => none
  | k + 1, x0, x5, x146, x422000, x422001, x422002 => if x146 = true then (some false) else (estoverslaw02_IntervalFirst.l1 k x0 x5 0 x422000 x422001 x422002)
def estoverslaw02_IntervalFirst.l1 : Nat → List (S28) → Int → Int → Int → Int → Int → Option (Bool)
  | 0, _, _, _, _, _, _ => none
  | k + 1, x0, x5, x11, x422000, x422001, x422002 => if x11 < x422002 then ((estoverslaw02_in.f k x0 (wrap64 (x5 + x11))).bind fun t437 => (if t437 = true then (some false) else (estoverslaw02_IntervalFirst.l1 k x0 x5 (wrap64 (x11 + 1)) x422000 x422001 x422002))) else ((estoverslaw02_awake.f k).bind fun t438 => (some t438))
end
def estoverslaw02_IntervalFirst.f (k : Nat) (l0 : List (S28)) (a1_0 : Int) (a1_1 : Int) (a1_2 : Int) : Option (Bool) := (estoverslaw02_few.f l0 ([] : List (S28))).bind fun t422 => (if t422 = true then ((estoverslaw02_sound.f k l0).bind fun t423 => (if t423 = true then (if a1_0 > a1_1 then (estoverslaw02_IntervalFirst.j0 k l0 true a1_0 a1_1 a1_2) else (if a1_2 < 1 then (estoverslaw02_IntervalFirst.j0 k l0 true a1_0 a1_1 a1_2) else (estoverslaw02_IntervalFirst.j0 k l0 (decide (a1_2 > 30)) a1_0 a1_1 a1_2))) else (estoverslaw02_IntervalFirst.j0 k l0 true a1_0 a1_1 a1_2))) else (estoverslaw02_IntervalFirst.j0 k l0 true a1_0 a1_1 a1_2))
theorem estoverslaw02_IntervalFirst.mono_l : ∀ k, (∀ y0 y1 y2 y3 y4, LeO (estoverslaw02_IntervalFirst.j0 k y0 y1 y2 y3 y4) (estoverslaw02_IntervalFirst.j0 (k + 1) y0 y1 y2 y3 y4)) ∧ (∀ y0 y1 y2 y3 y4 y5 y6 y7, LeO (estoverslaw02_IntervalFirst.j1 k y0 y1 y2 y3 y4 y5 y6 y7) (estoverslaw02_IntervalFirst.j1 (k + 1) y0 y1 y2 y3 y4 y5 y6 y7)) ∧ (∀ y0 y1 y2 y3 y4 y5 y6 y7, LeO (estoverslaw02_IntervalFirst.l0 k y0 y1 y2 y3 y4 y5 y6 y7) (estoverslaw02_IntervalFirst.l0 (k + 1) y0 y1 y2 y3 y4 y5 y6 y7)) ∧ (∀ y0 y1 y2 y3 y4 y5, LeO (estoverslaw02_IntervalFirst.j3 k y0 y1 y2 y3 y4 y5) (estoverslaw02_IntervalFirst.j3 (k + 1) y0 y1 y2 y3 y4 y5)) ∧ (∀ y0 y1 y2 y3 y4 y5, LeO (estoverslaw02_IntervalFirst.l1 k y0 y1 y2 y3 y4 y5) (estoverslaw02_IntervalFirst.l1 (k + 1) y0 y1 y2 y3 y4 y5))
  | 0 => ⟨fun _ _ _ _ _ r h => by simp [estoverslaw02_IntervalFirst.j0] at h, fun _ _ _ _ _ _ _ _ r h => by simp [estoverslaw02_IntervalFirst.j1] at h, fun _ _ _ _ _ _ _ _ r h => by simp [estoverslaw02_IntervalFirst.l0] at h, fun _ _ _ _ _ _ r h => by simp [estoverslaw02_IntervalFirst.j3] at h, fun _ _ _ _ _ _ r h => by simp [estoverslaw02_IntervalFirst.l1] at h⟩
  | k + 1 => by
    obtain ⟨ih0, ih1, ih2, ih3, ih4⟩ := estoverslaw02_IntervalFirst.mono_l k
    refine ⟨?_, ?_, ?_, ?_, ?_⟩
    · intro y0 y1 y2 y3 y4
      unfold estoverslaw02_IntervalFirst.j0
      repeat' first
      | (with_reducible exact ih0 _ _ _ _ _)
      | (with_reducible exact ih1 _ _ _ _ _ _ _ _)
      | (with_reducible exact ih2 _ _ _ _ _ _ _ _)
      | (with_reducible exact ih3 _ _ _ _ _ _)
      | (with_reducible exact ih4 _ _ _ _ _ _)
      | (with_reducible exact estoverslaw02_awake.mono _)
      | (with_reducible exact estoverslaw02_in.mono _ _ _)
      | (with_reducible exact estoverslaw02_sound.mono _ _)
      | (with_reducible exact interval_FirstGap.mono _ _ _ _ _)
      | (with_reducible exact interval_Gaps.mono _ _ _ _)
      | (with_reducible exact LeO.refl _)
      | (with_reducible exact LeO.none _)
      | (with_reducible refine LeO.ite ?_ ?_)
      | (with_reducible refine LeO.bind ?_ (fun _ => ?_))
      | exact ih0 _ _ _ _ _
      | exact ih1 _ _ _ _ _ _ _ _
      | exact ih2 _ _ _ _ _ _ _ _
      | exact ih3 _ _ _ _ _ _
      | exact ih4 _ _ _ _ _ _
      | exact estoverslaw02_awake.mono _
      | exact estoverslaw02_in.mono _ _ _
      | exact estoverslaw02_sound.mono _ _
      | exact interval_FirstGap.mono _ _ _ _ _
      | exact interval_Gaps.mono _ _ _ _
      | exact LeO.none _
      | refine LeO.ite ?_ ?_
      | refine LeO.bind ?_ (fun _ => ?_)
    · intro y0 y1 y2 y3 y4 y5 y6 y7
      unfold estoverslaw02_IntervalFirst.j1
      repeat' first
      | (with_reducible exact ih0 _ _ _ _ _)
      | (with_reducible exact ih1 _ _ _ _ _ _ _ _)
      | (with_reducible exact ih2 _ _ _ _ _ _ _ _)
      | (with_reducible exact ih3 _ _ _ _ _ _)
      | (with_reducible exact ih4 _ _ _ _ _ _)
      | (with_reducible exact estoverslaw02_awake.mono _)
      | (with_reducible exact estoverslaw02_in.mono _ _ _)
      | (with_reducible exact estoverslaw02_sound.mono _ _)
      | (with_reducible exact interval_FirstGap.mono _ _ _ _ _)
      | (with_reducible exact interval_Gaps.mono _ _ _ _)
      | (with_reducible exact LeO.refl _)
      | (with_reducible exact LeO.none _)
      | (with_reducible refine LeO.ite ?_ ?_)
      | (with_reducible refine LeO.bind ?_ (fun _ => ?_))
      | exact ih0 _ _ _ _ _
      | exact ih1 _ _ _ _ _ _ _ _
      | exact ih2 _ _ _ _ _ _ _ _
      | exact ih3 _ _ _ _ _ _
      | exact ih4 _ _ _ _ _ _
      | exact estoverslaw02_awake.mono _
      | exact estoverslaw02_in.mono _ _ _
      | exact estoverslaw02_sound.mono _ _
      | exact interval_FirstGap.mono _ _ _ _ _
      | exact interval_Gaps.mono _ _ _ _
      | exact LeO.none _
      | refine LeO.ite ?_ ?_
      | refine LeO.bind ?_ (fun _ => ?_)
    · intro y0 y1 y2 y3 y4 y5 y6 y7
      unfold estoverslaw02_IntervalFirst.l0
      repeat' first
      | (with_reducible exact ih0 _ _ _ _ _)
      | (with_reducible exact ih1 _ _ _ _ _ _ _ _)
      | (with_reducible exact ih2 _ _ _ _ _ _ _ _)
      | (with_reducible exact ih3 _ _ _ _ _ _)
      | (with_reducible exact ih4 _ _ _ _ _ _)
      | (with_reducible exact estoverslaw02_awake.mono _)
      | (with_reducible exact estoverslaw02_in.mono _ _ _)
      | (with_reducible exact estoverslaw02_sound.mono _ _)
      | (with_reducible exact interval_FirstGap.mono _ _ _ _ _)
      | (with_reducible exact interval_Gaps.mono _ _ _ _)
      | (with_reducible exact LeO.refl _)
      | (with_reducible exact LeO.none _)
      | (with_reducible refine LeO.ite ?_ ?_)
      | (with_reducible refine LeO.bind ?_ (fun _ => ?_))
      | exact ih0 _ _ _ _ _
      | exact ih1 _ _ _ _ _ _ _ _
      | exact ih2 _ _ _ _ _ _ _ _
      | exact ih3 _ _ _ _ _ _
      | exact ih4 _ _ _ _ _ _
      | exact estoverslaw02_awake.mono _
      | exact estoverslaw02_in.mono _ _ _
      | exact estoverslaw02_sound.mono _ _
      | exact interval_FirstGap.mono _ _ _ _ _
      | exact interval_Gaps.mono _ _ _ _
      | exact LeO.none _
      | refine LeO.ite ?_ ?_
      | refine LeO.bind ?_ (fun _ => ?_)
    · intro y0 y1 y2 y3 y4 y5
      unfold estoverslaw02_IntervalFirst.j3
      repeat' first
      | (with_reducible exact ih0 _ _ _ _ _)
      | (with_reducible exact ih1 _ _ _ _ _ _ _ _)
      | (with_reducible exact ih2 _ _ _ _ _ _ _ _)
      | (with_reducible exact ih3 _ _ _ _ _ _)
      | (with_reducible exact ih4 _ _ _ _ _ _)
      | (with_reducible exact estoverslaw02_awake.mono _)
      | (with_reducible exact estoverslaw02_in.mono _ _ _)
      | (with_reducible exact estoverslaw02_sound.mono _ _)
      | (with_reducible exact interval_FirstGap.mono _ _ _ _ _)
      | (with_reducible exact interval_Gaps.mono _ _ _ _)
      | (with_reducible exact LeO.refl _)
      | (with_reducible exact LeO.none _)
      | (with_reducible refine LeO.ite ?_ ?_)
      | (with_reducible refine LeO.bind ?_ (fun _ => ?_))
      | exact ih0 _ _ _ _ _
      | exact ih1 _ _ _ _ _ _ _ _
      | exact ih2 _ _ _ _ _ _ _ _
      | exact ih3 _ _ _ _ _ _
      | exact ih4 _ _ _ _ _ _
      | exact estoverslaw02_awake.mono _
      | exact estoverslaw02_in.mono _ _ _
      | exact estoverslaw02_sound.mono _ _
      | exact interval_FirstGap.mono _ _ _ _ _
      | exact interval_Gaps.mono _ _ _ _
      | exact LeO.none _
      | refine LeO.ite ?_ ?_
      | refine LeO.bind ?_ (fun _ => ?_)
    · intro y0 y1 y2 y3 y4 y5
      unfold estoverslaw02_IntervalFirst.l1
      repeat' first
      | (with_reducible exact ih0 _ _ _ _ _)
      | (with_reducible exact ih1 _ _ _ _ _ _ _ _)
      | (with_reducible exact ih2 _ _ _ _ _ _ _ _)
      | (with_reducible exact ih3 _ _ _ _ _ _)
      | (with_reducible exact ih4 _ _ _ _ _ _)
      | (with_reducible exact estoverslaw02_awake.mono _)
      | (with_reducible exact estoverslaw02_in.mono _ _ _)
      | (with_reducible exact estoverslaw02_sound.mono _ _)
      | (with_reducible exact interval_FirstGap.mono _ _ _ _ _)
      | (with_reducible exact interval_Gaps.mono _ _ _ _)
      | (with_reducible exact LeO.refl _)
      | (with_reducible exact LeO.none _)
      | (with_reducible refine LeO.ite ?_ ?_)
      | (with_reducible refine LeO.bind ?_ (fun _ => ?_))
      | exact ih0 _ _ _ _ _
      | exact ih1 _ _ _ _ _ _ _ _
      | exact ih2 _ _ _ _ _ _ _ _
      | exact ih3 _ _ _ _ _ _
      | exact ih4 _ _ _ _ _ _
      | exact estoverslaw02_awake.mono _
      | exact estoverslaw02_in.mono _ _ _
      | exact estoverslaw02_sound.mono _ _
      | exact interval_FirstGap.mono _ _ _ _ _
      | exact interval_Gaps.mono _ _ _ _
      | exact LeO.none _
      | refine LeO.ite ?_ ?_
      | refine LeO.bind ?_ (fun _ => ?_)
theorem estoverslaw02_IntervalFirst.mono : ∀ a0 a1 a2 a3 k, LeO (estoverslaw02_IntervalFirst.f k a0 a1 a2 a3) (estoverslaw02_IntervalFirst.f (k + 1) a0 a1 a2 a3) := by
  intro a0 a1 a2 a3 k
  obtain ⟨ih0, ih1, ih2, ih3, ih4⟩ := estoverslaw02_IntervalFirst.mono_l k
  unfold estoverslaw02_IntervalFirst.f
  repeat' first
      | (with_reducible exact ih0 _ _ _ _ _)
      | (with_reducible exact ih1 _ _ _ _ _ _ _ _)
      | (with_reducible exact ih2 _ _ _ _ _ _ _ _)
      | (with_reducible exact ih3 _ _ _ _ _ _)
      | (with_reducible exact ih4 _ _ _ _ _ _)
      | (with_reducible exact estoverslaw02_awake.mono _)
      | (with_reducible exact estoverslaw02_in.mono _ _ _)
      | (with_reducible exact estoverslaw02_sound.mono _ _)
      | (with_reducible exact interval_FirstGap.mono _ _ _ _ _)
      | (with_reducible exact interval_Gaps.mono _ _ _ _)
      | (with_reducible exact LeO.refl _)
      | (with_reducible exact LeO.none _)
      | (with_reducible refine LeO.ite ?_ ?_)
      | (with_reducible refine LeO.bind ?_ (fun _ => ?_))
      | exact ih0 _ _ _ _ _
      | exact ih1 _ _ _ _ _ _ _ _
      | exact ih2 _ _ _ _ _ _ _ _
      | exact ih3 _ _ _ _ _ _
      | exact ih4 _ _ _ _ _ _
      | exact estoverslaw02_awake.mono _
      | exact estoverslaw02_in.mono _ _ _
      | exact estoverslaw02_sound.mono _ _
      | exact interval_FirstGap.mono _ _ _ _ _
      | exact interval_Gaps.mono _ _ _ _
      | exact LeO.none _
      | refine LeO.ite ?_ ?_
      | refine LeO.bind ?_ (fun _ => ?_)
set_option maxHeartbeats 8000000 in
set_option maxRecDepth 100000 in
theorem estoverslaw02_IntervalFirst.calls (k : Nat) (A0 : Option Addr) (c0 : Nat) (l0 : List (S28)) (a1_0 : Int) (a1_1 : Int) (a1_2 : Int) (r : Bool) (w : World) (hr0 : Kd.C k28 w A0 l0.length l0) (hc0 : l0.length ≤ c0) (h : estoverslaw02_IntervalFirst.f k l0 a1_0 a1_1 a1_2 = some r) :
    Calls Try.prog 6 #[.slice A0 l0.length c0, .agg #[.int .i64 a1_0, .int .i64 a1_1, .int .i64 a1_2]] w fun e w' => e = .returned (.bool r) ∧ Below w.heap.size w w' := by
  have hu33 := Try.underlying33
  have HR0 := Aside0.mk hr0
  have HC0 := Aside0.mk hc0
  clear hr0 hc0
  have HB := Aside0.mk (Below.refl w.heap.size w)
  have H : ((estoverslaw02_few.f l0 ([] : List (S28))).bind fun t422 => (if t422 = true then ((estoverslaw02_sound.f k l0).bind fun t423 => (if t423 = true then (if a1_0 > a1_1 then (estoverslaw02_IntervalFirst.j0 k l0 true a1_0 a1_1 a1_2) else (if a1_2 < 1 then (estoverslaw02_IntervalFirst.j0 k l0 true a1_0 a1_1 a1_2) else (estoverslaw02_IntervalFirst.j0 k l0 (decide (a1_2 > 30)) a1_0 a1_1 a1_2))) else (estoverslaw02_IntervalFirst.j0 k l0 true a1_0 a1_1 a1_2))) else (estoverslaw02_IntervalFirst.j0 k l0 true a1_0 a1_1 a1_2))) = some r := h
  clear h
  have HC3 := Aside0.mk H
  clear H
  go_enter Try.func6, Try.ntmps6
  go_upto_region 1 with (first | ((with_reducible refine gate_dst (N := 3) rfl ?_); refine box_event ?hg (N := 3) ?hd (cs := #[.int .i64 a1_0, .int .i64 a1_1, .int .i64 a1_2]) (t := 33) ?hr ?_; (case hd => rfl); (case hg => rfl); (case hr => first | (go_simp; done) | (go_simp; rfl)); intro gb421 hg w4 hbox hb; have n0_ := Aside0.mk (below_step (by repeat (first | (with_reducible first | exact HB.out | apply below_alloc | apply pw_below_drewN | apply below_drew1) | exact HB.out)) hb); have n1_ := Aside0.mk (hbox); have n2_ := Aside0.mk ((by rw [hg]; exact (below_size (by repeat (first | (with_reducible first | exact HB.out | apply below_alloc | apply pw_below_drewN | apply below_drew1) | exact HB.out))) : w.heap.size ≤ gb421)); have n3_ := Aside0.mk ((by rw [hg]; exact (below_size (by repeat (first | (with_reducible first | exact HB.out | apply below_alloc | apply pw_below_drewN | apply below_drew1) | exact HB.out))) : w.heap.size ≤ gb421)); clear HB; have HB := n0_; have BK421 := n1_; have GW421 := n2_; have GE421 := n3_; clear n0_ n1_ n2_ n3_; clear hb hbox hg))
  repeat (go_quiet (first | ((with_reducible refine gate_dst (N := 3) rfl ?_); refine box_event ?hg (N := 3) ?hd (cs := #[.int .i64 a1_0, .int .i64 a1_1, .int .i64 a1_2]) (t := 33) ?hr ?_; (case hd => rfl); (case hg => rfl); (case hr => first | (go_simp; done) | (go_simp; rfl)); intro gb421 hg w4 hbox hb; have n0_ := Aside0.mk (below_step (by repeat (first | (with_reducible first | exact HB.out | apply below_alloc | apply pw_below_drewN | apply below_drew1) | exact HB.out)) hb); have n1_ := Aside0.mk (hbox); have n2_ := Aside0.mk ((by rw [hg]; exact (below_size (by repeat (first | (with_reducible first | exact HB.out | apply below_alloc | apply pw_below_drewN | apply below_drew1) | exact HB.out))) : w.heap.size ≤ gb421)); have n3_ := Aside0.mk ((by rw [hg]; exact (below_size (by repeat (first | (with_reducible first | exact HB.out | apply below_alloc | apply pw_below_drewN | apply below_drew1) | exact HB.out))) : w.heap.size ≤ gb421)); clear HB; have HB := n0_; have BK421 := n1_; have GW421 := n2_; have GE421 := n3_; clear n0_ n1_ n2_ n3_; clear hb hbox hg)); go_upto_region 1 with (first | ((with_reducible refine gate_dst (N := 3) rfl ?_); refine box_event ?hg (N := 3) ?hd (cs := #[.int .i64 a1_0, .int .i64 a1_1, .int .i64 a1_2]) (t := 33) ?hr ?_; (case hd => rfl); (case hg => rfl); (case hr => first | (go_simp; done) | (go_simp; rfl)); intro gb421 hg w4 hbox hb; have n0_ := Aside0.mk (below_step (by repeat (first | (with_reducible first | exact HB.out | apply below_alloc | apply pw_below_drewN | apply below_drew1) | exact HB.out)) hb); have n1_ := Aside0.mk (hbox); have n2_ := Aside0.mk ((by rw [hg]; exact (below_size (by repeat (first | (with_reducible first | exact HB.out | apply below_alloc | apply pw_below_drewN | apply below_drew1) | exact HB.out))) : w.heap.size ≤ gb421)); have n3_ := Aside0.mk ((by rw [hg]; exact (below_size (by repeat (first | (with_reducible first | exact HB.out | apply below_alloc | apply pw_below_drewN | apply below_drew1) | exact HB.out))) : w.heap.size ≤ gb421)); clear HB; have HB := n0_; have BK421 := n1_; have GW421 := n2_; have GE421 := n3_; clear n0_ n1_ n2_ n3_; clear hb hbox hg)))
  (try simp only [Act.put, List.setIfInBounds_toArray, List.set_cons_zero, List.set_cons_succ])
  go_cut [36] (fun v36 wc => ∃ (kq : Nat) (x36_2 : Bool), v36 = .bool x36_2 ∧ Aside0 (estoverslaw02_IntervalFirst.j0 kq l0 x36_2 a1_0 a1_1 a1_2 = some r) ∧ Aside0 (kq ≤ k) ∧ Aside0 (wc.heap[gb421]? = some (.cells #[.int .i64 a1_0, .int .i64 a1_1, .int .i64 a1_2] 33 (0, 0))) ∧ Aside0 (Below w.heap.size w wc))
  case first =>
    have H := HC3.out
    clear HC3
    replace H := Option.bind_eq_some_iff.mp H
    obtain ⟨t422, A50, H⟩ := H
    replace H : (if t422 = true then ((estoverslaw02_sound.f k l0).bind fun t423 => (if t423 = true then (if a1_0 > a1_1 then (estoverslaw02_IntervalFirst.j0 k l0 true a1_0 a1_1 a1_2) else (if a1_2 < 1 then (estoverslaw02_IntervalFirst.j0 k l0 true a1_0 a1_1 a1_2) else (estoverslaw02_IntervalFirst.j0 k l0 (decide (a1_2 > 30)) a1_0 a1_1 a1_2))) else (estoverslaw02_IntervalFirst.j0 k l0 true a1_0 a1_1 a1_2))) else (estoverslaw02_IntervalFirst.j0 k l0 true a1_0 a1_1 a1_2)) = some r := H
    have A5 := Aside0.mk A50
    clear A50
    by_cases c6 : t422 = true
    · subst c6
      have H1 : ((estoverslaw02_sound.f k l0).bind fun t423 => (if t423 = true then (if a1_0 > a1_1 then (estoverslaw02_IntervalFirst.j0 k l0 true a1_0 a1_1 a1_2) else (if a1_2 < 1 then (estoverslaw02_IntervalFirst.j0 k l0 true a1_0 a1_1 a1_2) else (estoverslaw02_IntervalFirst.j0 k l0 (decide (a1_2 > 30)) a1_0 a1_1 a1_2))) else (estoverslaw02_IntervalFirst.j0 k l0 true a1_0 a1_1 a1_2))) = some r := by rw [if_pos rfl] at H; exact H
      clear H
      have H := H1
      clear H1
      replace H := Option.bind_eq_some_iff.mp H
      obtain ⟨t423, A70, H⟩ := H
      replace H : (if t423 = true then (if a1_0 > a1_1 then (estoverslaw02_IntervalFirst.j0 k l0 true a1_0 a1_1 a1_2) else (if a1_2 < 1 then (estoverslaw02_IntervalFirst.j0 k l0 true a1_0 a1_1 a1_2) else (estoverslaw02_IntervalFirst.j0 k l0 (decide (a1_2 > 30)) a1_0 a1_1 a1_2))) else (estoverslaw02_IntervalFirst.j0 k l0 true a1_0 a1_1 a1_2)) = some r := H
      have A7 := Aside0.mk A70
      clear A70
      by_cases c8 : t423 = true
      · subst c8
        have H1 : (if a1_0 > a1_1 then (estoverslaw02_IntervalFirst.j0 k l0 true a1_0 a1_1 a1_2) else (if a1_2 < 1 then (estoverslaw02_IntervalFirst.j0 k l0 true a1_0 a1_1 a1_2) else (estoverslaw02_IntervalFirst.j0 k l0 (decide (a1_2 > 30)) a1_0 a1_1 a1_2))) = some r := by rw [if_pos rfl] at H; exact H
        clear H
        have H := H1
        clear H1
        by_cases c9 : a1_0 > a1_1
        · rw [if_pos c9] at H
          have c9b0 : decide (a1_1 < a1_0) = true := decide_eq_true c9
          clear c9
          (first | rw [c9b0] | (simp only [i64_w, i32_w]; rw [c9b0]) | skip)
          have H' := Aside0.mk H
          clear H
          go_wp2_with (first | (go_at_call 11; (refine (estoverslaw02_few.calls _ _ l0 _ _ ([] : List (S28)) true _ ?side1 ?side2 ?side3 ?side4 A5.out).mono ?_); (case side1 => repeat (first | exact (Kd.C_below HR0.out HB.out) | (with_reducible refine Kd.C_alloc ?_ _) | (with_reducible refine Kd.C_drewN ?_ _) | (with_reducible refine Kd.C_drew ?_))); (case side2 => exact HC0.out); (case side3 => exact Kd.C_nil _ _); (case side4 => exact Nat.le_refl _); rintro e w' ⟨rfl, ⟨nd, rfl⟩⟩; (try first | exact ⟨rfl, _, World.drewN_drewN _ _ _⟩ | exact ⟨rfl, _, Eq.trans (World.drewN_drewN _ _ _) (congrArg (World.drewN _) (Nat.add_assoc _ _ _))⟩)) | (go_at_call 26; (with_reducible refine (estoverslaw02_sound.calls k _ _ l0 true _ ?side1 ?side2 A7.out).mono ?_); (case side1 => repeat (first | exact (Kd.C_below HR0.out (by repeat (first | (with_reducible first | exact HB.out | apply below_alloc | apply pw_below_drewN | apply below_drew1 | refine below_set ?_ GE421.out) | exact HB.out))) | (with_reducible refine Kd.C_alloc ?_ _) | (with_reducible refine Kd.C_drewN ?_ _) | (with_reducible refine Kd.C_drew ?_))); (case side2 => exact HC0.out); rintro e w' ⟨rfl, ⟨nd, rfl⟩⟩; (try first | exact ⟨rfl, _, World.drewN_drewN _ _ _⟩ | exact ⟨rfl, _, Eq.trans (World.drewN_drewN _ _ _) (congrArg (World.drewN _) (Nat.add_assoc _ _ _))⟩); have hcz10_0 : w4.cell? ⟨gb421, 0, none⟩ = some (.int .i64 a1_0) := (blk_cell BK421.out 0).trans rfl; have hcz10_1 : w4.cell? ⟨gb421, 1, none⟩ = some (.int .i64 a1_1) := (blk_cell BK421.out 1).trans rfl; have hcz10_2 : w4.cell? ⟨gb421, 2, none⟩ = some (.int .i64 a1_2) := (blk_cell BK421.out 2).trans rfl; have hfz10_0 := blk_frozen BK421.out 0; have hfz10_1 := blk_frozen BK421.out 1; have hfz10_2 := blk_frozen BK421.out 2))
          repeat (go_quiet (first | (go_at_call 11; (refine (estoverslaw02_few.calls _ _ l0 _ _ ([] : List (S28)) true _ ?side1 ?side2 ?side3 ?side4 A5.out).mono ?_); (case side1 => repeat (first | exact (Kd.C_below HR0.out HB.out) | (with_reducible refine Kd.C_alloc ?_ _) | (with_reducible refine Kd.C_drewN ?_ _) | (with_reducible refine Kd.C_drew ?_))); (case side2 => exact HC0.out); (case side3 => exact Kd.C_nil _ _); (case side4 => exact Nat.le_refl _); rintro e w' ⟨rfl, ⟨nd, rfl⟩⟩; (try first | exact ⟨rfl, _, World.drewN_drewN _ _ _⟩ | exact ⟨rfl, _, Eq.trans (World.drewN_drewN _ _ _) (congrArg (World.drewN _) (Nat.add_assoc _ _ _))⟩)) | (go_at_call 26; (with_reducible refine (estoverslaw02_sound.calls k _ _ l0 true _ ?side1 ?side2 A7.out).mono ?_); (case side1 => repeat (first | exact (Kd.C_below HR0.out (by repeat (first | (with_reducible first | exact HB.out | apply below_alloc | apply pw_below_drewN | apply below_drew1 | refine below_set ?_ GE421.out) | exact HB.out))) | (with_reducible refine Kd.C_alloc ?_ _) | (with_reducible refine Kd.C_drewN ?_ _) | (with_reducible refine Kd.C_drew ?_))); (case side2 => exact HC0.out); rintro e w' ⟨rfl, ⟨nd, rfl⟩⟩; (try first | exact ⟨rfl, _, World.drewN_drewN _ _ _⟩ | exact ⟨rfl, _, Eq.trans (World.drewN_drewN _ _ _) (congrArg (World.drewN _) (Nat.add_assoc _ _ _))⟩); have hcz10_0 : w4.cell? ⟨gb421, 0, none⟩ = some (.int .i64 a1_0) := (blk_cell BK421.out 0).trans rfl; have hcz10_1 : w4.cell? ⟨gb421, 1, none⟩ = some (.int .i64 a1_1) := (blk_cell BK421.out 1).trans rfl; have hcz10_2 : w4.cell? ⟨gb421, 2, none⟩ = some (.int .i64 a1_2) := (blk_cell BK421.out 2).trans rfl; have hfz10_0 := blk_frozen BK421.out 0; have hfz10_1 := blk_frozen BK421.out 1; have hfz10_2 := blk_frozen BK421.out 2)); try go_wp2_with (first | (go_at_call 11; (refine (estoverslaw02_few.calls _ _ l0 _ _ ([] : List (S28)) true _ ?side1 ?side2 ?side3 ?side4 A5.out).mono ?_); (case side1 => repeat (first | exact (Kd.C_below HR0.out HB.out) | (with_reducible refine Kd.C_alloc ?_ _) | (with_reducible refine Kd.C_drewN ?_ _) | (with_reducible refine Kd.C_drew ?_))); (case side2 => exact HC0.out); (case side3 => exact Kd.C_nil _ _); (case side4 => exact Nat.le_refl _); rintro e w' ⟨rfl, ⟨nd, rfl⟩⟩; (try first | exact ⟨rfl, _, World.drewN_drewN _ _ _⟩ | exact ⟨rfl, _, Eq.trans (World.drewN_drewN _ _ _) (congrArg (World.drewN _) (Nat.add_assoc _ _ _))⟩)) | (go_at_call 26; (with_reducible refine (estoverslaw02_sound.calls k _ _ l0 true _ ?side1 ?side2 A7.out).mono ?_); (case side1 => repeat (first | exact (Kd.C_below HR0.out (by repeat (first | (with_reducible first | exact HB.out | apply below_alloc | apply pw_below_drewN | apply below_drew1 | refine below_set ?_ GE421.out) | exact HB.out))) | (with_reducible refine Kd.C_alloc ?_ _) | (with_reducible refine Kd.C_drewN ?_ _) | (with_reducible refine Kd.C_drew ?_))); (case side2 => exact HC0.out); rintro e w' ⟨rfl, ⟨nd, rfl⟩⟩; (try first | exact ⟨rfl, _, World.drewN_drewN _ _ _⟩ | exact ⟨rfl, _, Eq.trans (World.drewN_drewN _ _ _) (congrArg (World.drewN _) (Nat.add_assoc _ _ _))⟩); have hcz10_0 : w4.cell? ⟨gb421, 0, none⟩ = some (.int .i64 a1_0) := (blk_cell BK421.out 0).trans rfl; have hcz10_1 : w4.cell? ⟨gb421, 1, none⟩ = some (.int .i64 a1_1) := (blk_cell BK421.out 1).trans rfl; have hcz10_2 : w4.cell? ⟨gb421, 2, none⟩ = some (.int .i64 a1_2) := (blk_cell BK421.out 2).trans rfl; have hfz10_0 := blk_frozen BK421.out 0; have hfz10_1 := blk_frozen BK421.out 1; have hfz10_2 := blk_frozen BK421.out 2)))
          go_meet
          case rel => exact ⟨_, (true), (by first | rfl | (simp; done) | (simp [*]; done)), H', ⟨by first | omega | exact Nat.le_refl _⟩, ⟨by (with_reducible repeat (first | refine blk_drewN ?_ _ | refine blk_drew ?_ | refine blk_alloc ?_ _)); exact BK421.out⟩, ⟨by repeat (first | (with_reducible first | exact HB.out | apply below_alloc | apply pw_below_drewN | apply below_drew1 | refine below_set ?_ GE421.out) | exact HB.out)⟩⟩
        · rw [if_neg c9] at H
          have c9b0 : decide (a1_1 < a1_0) = false := decide_eq_false c9
          clear c9
          (first | rw [c9b0] | (simp only [i64_w, i32_w]; rw [c9b0]) | skip)
          by_cases c11 : a1_2 < 1
          · rw [if_pos c11] at H
            have c11b0 : decide (a1_2 < 1) = true := decide_eq_true c11
            clear c11
            have H' := Aside0.mk H
            clear H
            go_wp2_with (first | (go_at_call 11; (refine (estoverslaw02_few.calls _ _ l0 _ _ ([] : List (S28)) true _ ?side1 ?side2 ?side3 ?side4 A5.out).mono ?_); (case side1 => repeat (first | exact (Kd.C_below HR0.out HB.out) | (with_reducible refine Kd.C_alloc ?_ _) | (with_reducible refine Kd.C_drewN ?_ _) | (with_reducible refine Kd.C_drew ?_))); (case side2 => exact HC0.out); (case side3 => exact Kd.C_nil _ _); (case side4 => exact Nat.le_refl _); rintro e w' ⟨rfl, ⟨nd, rfl⟩⟩; (try first | exact ⟨rfl, _, World.drewN_drewN _ _ _⟩ | exact ⟨rfl, _, Eq.trans (World.drewN_drewN _ _ _) (congrArg (World.drewN _) (Nat.add_assoc _ _ _))⟩)) | (go_at_call 26; (with_reducible refine (estoverslaw02_sound.calls k _ _ l0 true _ ?side1 ?side2 A7.out).mono ?_); (case side1 => repeat (first | exact (Kd.C_below HR0.out (by repeat (first | (with_reducible first | exact HB.out | apply below_alloc | apply pw_below_drewN | apply below_drew1 | refine below_set ?_ GE421.out) | exact HB.out))) | (with_reducible refine Kd.C_alloc ?_ _) | (with_reducible refine Kd.C_drewN ?_ _) | (with_reducible refine Kd.C_drew ?_))); (case side2 => exact HC0.out); rintro e w' ⟨rfl, ⟨nd, rfl⟩⟩; (try first | exact ⟨rfl, _, World.drewN_drewN _ _ _⟩ | exact ⟨rfl, _, Eq.trans (World.drewN_drewN _ _ _) (congrArg (World.drewN _) (Nat.add_assoc _ _ _))⟩); have hcz12_0 : w4.cell? ⟨gb421, 0, none⟩ = some (.int .i64 a1_0) := (blk_cell BK421.out 0).trans rfl; have hcz12_1 : w4.cell? ⟨gb421, 1, none⟩ = some (.int .i64 a1_1) := (blk_cell BK421.out 1).trans rfl; have hcz12_2 : w4.cell? ⟨gb421, 2, none⟩ = some (.int .i64 a1_2) := (blk_cell BK421.out 2).trans rfl; have hfz12_0 := blk_frozen BK421.out 0; have hfz12_1 := blk_frozen BK421.out 1; have hfz12_2 := blk_frozen BK421.out 2))
            repeat (go_quiet (first | (go_at_call 11; (refine (estoverslaw02_few.calls _ _ l0 _ _ ([] : List (S28)) true _ ?side1 ?side2 ?side3 ?side4 A5.out).mono ?_); (case side1 => repeat (first | exact (Kd.C_below HR0.out HB.out) | (with_reducible refine Kd.C_alloc ?_ _) | (with_reducible refine Kd.C_drewN ?_ _) | (with_reducible refine Kd.C_drew ?_))); (case side2 => exact HC0.out); (case side3 => exact Kd.C_nil _ _); (case side4 => exact Nat.le_refl _); rintro e w' ⟨rfl, ⟨nd, rfl⟩⟩; (try first | exact ⟨rfl, _, World.drewN_drewN _ _ _⟩ | exact ⟨rfl, _, Eq.trans (World.drewN_drewN _ _ _) (congrArg (World.drewN _) (Nat.add_assoc _ _ _))⟩)) | (go_at_call 26; (with_reducible refine (estoverslaw02_sound.calls k _ _ l0 true _ ?side1 ?side2 A7.out).mono ?_); (case side1 => repeat (first | exact (Kd.C_below HR0.out (by repeat (first | (with_reducible first | exact HB.out | apply below_alloc | apply pw_below_drewN | apply below_drew1 | refine below_set ?_ GE421.out) | exact HB.out))) | (with_reducible refine Kd.C_alloc ?_ _) | (with_reducible refine Kd.C_drewN ?_ _) | (with_reducible refine Kd.C_drew ?_))); (case side2 => exact HC0.out); rintro e w' ⟨rfl, ⟨nd, rfl⟩⟩; (try first | exact ⟨rfl, _, World.drewN_drewN _ _ _⟩ | exact ⟨rfl, _, Eq.trans (World.drewN_drewN _ _ _) (congrArg (World.drewN _) (Nat.add_assoc _ _ _))⟩); have hcz12_0 : w4.cell? ⟨gb421, 0, none⟩ = some (.int .i64 a1_0) := (blk_cell BK421.out 0).trans rfl; have hcz12_1 : w4.cell? ⟨gb421, 1, none⟩ = some (.int .i64 a1_1) := (blk_cell BK421.out 1).trans rfl; have hcz12_2 : w4.cell? ⟨gb421, 2, none⟩ = some (.int .i64 a1_2) := (blk_cell BK421.out 2).trans rfl; have hfz12_0 := blk_frozen BK421.out 0; have hfz12_1 := blk_frozen BK421.out 1; have hfz12_2 := blk_frozen BK421.out 2)); try go_wp2_with (first | (go_at_call 11; (refine (estoverslaw02_few.calls _ _ l0 _ _ ([] : List (S28)) true _ ?side1 ?side2 ?side3 ?side4 A5.out).mono ?_); (case side1 => repeat (first | exact (Kd.C_below HR0.out HB.out) | (with_reducible refine Kd.C_alloc ?_ _) | (with_reducible refine Kd.C_drewN ?_ _) | (with_reducible refine Kd.C_drew ?_))); (case side2 => exact HC0.out); (case side3 => exact Kd.C_nil _ _); (case side4 => exact Nat.le_refl _); rintro e w' ⟨rfl, ⟨nd, rfl⟩⟩; (try first | exact ⟨rfl, _, World.drewN_drewN _ _ _⟩ | exact ⟨rfl, _, Eq.trans (World.drewN_drewN _ _ _) (congrArg (World.drewN _) (Nat.add_assoc _ _ _))⟩)) | (go_at_call 26; (with_reducible refine (estoverslaw02_sound.calls k _ _ l0 true _ ?side1 ?side2 A7.out).mono ?_); (case side1 => repeat (first | exact (Kd.C_below HR0.out (by repeat (first | (with_reducible first | exact HB.out | apply below_alloc | apply pw_below_drewN | apply below_drew1 | refine below_set ?_ GE421.out) | exact HB.out))) | (with_reducible refine Kd.C_alloc ?_ _) | (with_reducible refine Kd.C_drewN ?_ _) | (with_reducible refine Kd.C_drew ?_))); (case side2 => exact HC0.out); rintro e w' ⟨rfl, ⟨nd, rfl⟩⟩; (try first | exact ⟨rfl, _, World.drewN_drewN _ _ _⟩ | exact ⟨rfl, _, Eq.trans (World.drewN_drewN _ _ _) (congrArg (World.drewN _) (Nat.add_assoc _ _ _))⟩); have hcz12_0 : w4.cell? ⟨gb421, 0, none⟩ = some (.int .i64 a1_0) := (blk_cell BK421.out 0).trans rfl; have hcz12_1 : w4.cell? ⟨gb421, 1, none⟩ = some (.int .i64 a1_1) := (blk_cell BK421.out 1).trans rfl; have hcz12_2 : w4.cell? ⟨gb421, 2, none⟩ = some (.int .i64 a1_2) := (blk_cell BK421.out 2).trans rfl; have hfz12_0 := blk_frozen BK421.out 0; have hfz12_1 := blk_frozen BK421.out 1; have hfz12_2 := blk_frozen BK421.out 2)))
            go_meet
            case rel => exact ⟨_, (true), (by first | rfl | (simp; done) | (simp [*]; done)), H', ⟨by first | omega | exact Nat.le_refl _⟩, ⟨by (with_reducible repeat (first | refine blk_drewN ?_ _ | refine blk_drew ?_ | refine blk_alloc ?_ _)); exact BK421.out⟩, ⟨by repeat (first | (with_reducible first | exact HB.out | apply below_alloc | apply pw_below_drewN | apply below_drew1 | refine below_set ?_ GE421.out) | exact HB.out)⟩⟩
          · rw [if_neg c11] at H
            have c11b0 : decide (a1_2 < 1) = false := decide_eq_false c11
            clear c11
            have H' := Aside0.mk H
            clear H
            go_wp2_with (first | (go_at_call 11; (refine (estoverslaw02_few.calls _ _ l0 _ _ ([] : List (S28)) true _ ?side1 ?side2 ?side3 ?side4 A5.out).mono ?_); (case side1 => repeat (first | exact (Kd.C_below HR0.out HB.out) | (with_reducible refine Kd.C_alloc ?_ _) | (with_reducible refine Kd.C_drewN ?_ _) | (with_reducible refine Kd.C_drew ?_))); (case side2 => exact HC0.out); (case side3 => exact Kd.C_nil _ _); (case side4 => exact Nat.le_refl _); rintro e w' ⟨rfl, ⟨nd, rfl⟩⟩; (try first | exact ⟨rfl, _, World.drewN_drewN _ _ _⟩ | exact ⟨rfl, _, Eq.trans (World.drewN_drewN _ _ _) (congrArg (World.drewN _) (Nat.add_assoc _ _ _))⟩)) | (go_at_call 26; (with_reducible refine (estoverslaw02_sound.calls k _ _ l0 true _ ?side1 ?side2 A7.out).mono ?_); (case side1 => repeat (first | exact (Kd.C_below HR0.out (by repeat (first | (with_reducible first | exact HB.out | apply below_alloc | apply pw_below_drewN | apply below_drew1 | refine below_set ?_ GE421.out) | exact HB.out))) | (with_reducible refine Kd.C_alloc ?_ _) | (with_reducible refine Kd.C_drewN ?_ _) | (with_reducible refine Kd.C_drew ?_))); (case side2 => exact HC0.out); rintro e w' ⟨rfl, ⟨nd, rfl⟩⟩; (try first | exact ⟨rfl, _, World.drewN_drewN _ _ _⟩ | exact ⟨rfl, _, Eq.trans (World.drewN_drewN _ _ _) (congrArg (World.drewN _) (Nat.add_assoc _ _ _))⟩); have hcz13_0 : w4.cell? ⟨gb421, 0, none⟩ = some (.int .i64 a1_0) := (blk_cell BK421.out 0).trans rfl; have hcz13_1 : w4.cell? ⟨gb421, 1, none⟩ = some (.int .i64 a1_1) := (blk_cell BK421.out 1).trans rfl; have hcz13_2 : w4.cell? ⟨gb421, 2, none⟩ = some (.int .i64 a1_2) := (blk_cell BK421.out 2).trans rfl; have hfz13_0 := blk_frozen BK421.out 0; have hfz13_1 := blk_frozen BK421.out 1; have hfz13_2 := blk_frozen BK421.out 2))
            repeat (go_quiet (first | (go_at_call 11; (refine (estoverslaw02_few.calls _ _ l0 _ _ ([] : List (S28)) true _ ?side1 ?side2 ?side3 ?side4 A5.out).mono ?_); (case side1 => repeat (first | exact (Kd.C_below HR0.out HB.out) | (with_reducible refine Kd.C_alloc ?_ _) | (with_reducible refine Kd.C_drewN ?_ _) | (with_reducible refine Kd.C_drew ?_))); (case side2 => exact HC0.out); (case side3 => exact Kd.C_nil _ _); (case side4 => exact Nat.le_refl _); rintro e w' ⟨rfl, ⟨nd, rfl⟩⟩; (try first | exact ⟨rfl, _, World.drewN_drewN _ _ _⟩ | exact ⟨rfl, _, Eq.trans (World.drewN_drewN _ _ _) (congrArg (World.drewN _) (Nat.add_assoc _ _ _))⟩)) | (go_at_call 26; (with_reducible refine (estoverslaw02_sound.calls k _ _ l0 true _ ?side1 ?side2 A7.out).mono ?_); (case side1 => repeat (first | exact (Kd.C_below HR0.out (by repeat (first | (with_reducible first | exact HB.out | apply below_alloc | apply pw_below_drewN | apply below_drew1 | refine below_set ?_ GE421.out) | exact HB.out))) | (with_reducible refine Kd.C_alloc ?_ _) | (with_reducible refine Kd.C_drewN ?_ _) | (with_reducible refine Kd.C_drew ?_))); (case side2 => exact HC0.out); rintro e w' ⟨rfl, ⟨nd, rfl⟩⟩; (try first | exact ⟨rfl, _, World.drewN_drewN _ _ _⟩ | exact ⟨rfl, _, Eq.trans (World.drewN_drewN _ _ _) (congrArg (World.drewN _) (Nat.add_assoc _ _ _))⟩); have hcz13_0 : w4.cell? ⟨gb421, 0, none⟩ = some (.int .i64 a1_0) := (blk_cell BK421.out 0).trans rfl; have hcz13_1 : w4.cell? ⟨gb421, 1, none⟩ = some (.int .i64 a1_1) := (blk_cell BK421.out 1).trans rfl; have hcz13_2 : w4.cell? ⟨gb421, 2, none⟩ = some (.int .i64 a1_2) := (blk_cell BK421.out 2).trans rfl; have hfz13_0 := blk_frozen BK421.out 0; have hfz13_1 := blk_frozen BK421.out 1; have hfz13_2 := blk_frozen BK421.out 2)); try go_wp2_with (first | (go_at_call 11; (refine (estoverslaw02_few.calls _ _ l0 _ _ ([] : List (S28)) true _ ?side1 ?side2 ?side3 ?side4 A5.out).mono ?_); (case side1 => repeat (first | exact (Kd.C_below HR0.out HB.out) | (with_reducible refine Kd.C_alloc ?_ _) | (with_reducible refine Kd.C_drewN ?_ _) | (with_reducible refine Kd.C_drew ?_))); (case side2 => exact HC0.out); (case side3 => exact Kd.C_nil _ _); (case side4 => exact Nat.le_refl _); rintro e w' ⟨rfl, ⟨nd, rfl⟩⟩; (try first | exact ⟨rfl, _, World.drewN_drewN _ _ _⟩ | exact ⟨rfl, _, Eq.trans (World.drewN_drewN _ _ _) (congrArg (World.drewN _) (Nat.add_assoc _ _ _))⟩)) | (go_at_call 26; (with_reducible refine (estoverslaw02_sound.calls k _ _ l0 true _ ?side1 ?side2 A7.out).mono ?_); (case side1 => repeat (first | exact (Kd.C_below HR0.out (by repeat (first | (with_reducible first | exact HB.out | apply below_alloc | apply pw_below_drewN | apply below_drew1 | refine below_set ?_ GE421.out) | exact HB.out))) | (with_reducible refine Kd.C_alloc ?_ _) | (with_reducible refine Kd.C_drewN ?_ _) | (with_reducible refine Kd.C_drew ?_))); (case side2 => exact HC0.out); rintro e w' ⟨rfl, ⟨nd, rfl⟩⟩; (try first | exact ⟨rfl, _, World.drewN_drewN _ _ _⟩ | exact ⟨rfl, _, Eq.trans (World.drewN_drewN _ _ _) (congrArg (World.drewN _) (Nat.add_assoc _ _ _))⟩); have hcz13_0 : w4.cell? ⟨gb421, 0, none⟩ = some (.int .i64 a1_0) := (blk_cell BK421.out 0).trans rfl; have hcz13_1 : w4.cell? ⟨gb421, 1, none⟩ = some (.int .i64 a1_1) := (blk_cell BK421.out 1).trans rfl; have hcz13_2 : w4.cell? ⟨gb421, 2, none⟩ = some (.int .i64 a1_2) := (blk_cell BK421.out 2).trans rfl; have hfz13_0 := blk_frozen BK421.out 0; have hfz13_1 := blk_frozen BK421.out 1; have hfz13_2 := blk_frozen BK421.out 2)))
            go_meet
            case rel => exact ⟨_, (decide (a1_2 > 30)), (by first | rfl | (simp; done) | (simp [*]; done)), H', ⟨by first | omega | exact Nat.le_refl _⟩, ⟨by (with_reducible repeat (first | refine blk_drewN ?_ _ | refine blk_drew ?_ | refine blk_alloc ?_ _)); exact BK421.out⟩, ⟨by repeat (first | (with_reducible first | exact HB.out | apply below_alloc | apply pw_below_drewN | apply below_drew1 | refine below_set ?_ GE421.out) | exact HB.out)⟩⟩
      · replace c8 := Bool.eq_false_iff.mpr c8
        subst c8
        have H1 : (estoverslaw02_IntervalFirst.j0 k l0 true a1_0 a1_1 a1_2) = some r := by rw [if_neg (show ¬ (false = true) by decide)] at H; exact H
        clear H
        have H := H1
        clear H1
        have H' := Aside0.mk H
        clear H
        go_wp2_with (first | (go_at_call 11; (refine (estoverslaw02_few.calls _ _ l0 _ _ ([] : List (S28)) true _ ?side1 ?side2 ?side3 ?side4 A5.out).mono ?_); (case side1 => repeat (first | exact (Kd.C_below HR0.out HB.out) | (with_reducible refine Kd.C_alloc ?_ _) | (with_reducible refine Kd.C_drewN ?_ _) | (with_reducible refine Kd.C_drew ?_))); (case side2 => exact HC0.out); (case side3 => exact Kd.C_nil _ _); (case side4 => exact Nat.le_refl _); rintro e w' ⟨rfl, ⟨nd, rfl⟩⟩; (try first | exact ⟨rfl, _, World.drewN_drewN _ _ _⟩ | exact ⟨rfl, _, Eq.trans (World.drewN_drewN _ _ _) (congrArg (World.drewN _) (Nat.add_assoc _ _ _))⟩)) | (go_at_call 26; (with_reducible refine (estoverslaw02_sound.calls k _ _ l0 false _ ?side1 ?side2 A7.out).mono ?_); (case side1 => repeat (first | exact (Kd.C_below HR0.out (by repeat (first | (with_reducible first | exact HB.out | apply below_alloc | apply pw_below_drewN | apply below_drew1 | refine below_set ?_ GE421.out) | exact HB.out))) | (with_reducible refine Kd.C_alloc ?_ _) | (with_reducible refine Kd.C_drewN ?_ _) | (with_reducible refine Kd.C_drew ?_))); (case side2 => exact HC0.out); rintro e w' ⟨rfl, ⟨nd, rfl⟩⟩; (try first | exact ⟨rfl, _, World.drewN_drewN _ _ _⟩ | exact ⟨rfl, _, Eq.trans (World.drewN_drewN _ _ _) (congrArg (World.drewN _) (Nat.add_assoc _ _ _))⟩)))
        repeat (go_quiet (first | (go_at_call 11; (refine (estoverslaw02_few.calls _ _ l0 _ _ ([] : List (S28)) true _ ?side1 ?side2 ?side3 ?side4 A5.out).mono ?_); (case side1 => repeat (first | exact (Kd.C_below HR0.out HB.out) | (with_reducible refine Kd.C_alloc ?_ _) | (with_reducible refine Kd.C_drewN ?_ _) | (with_reducible refine Kd.C_drew ?_))); (case side2 => exact HC0.out); (case side3 => exact Kd.C_nil _ _); (case side4 => exact Nat.le_refl _); rintro e w' ⟨rfl, ⟨nd, rfl⟩⟩; (try first | exact ⟨rfl, _, World.drewN_drewN _ _ _⟩ | exact ⟨rfl, _, Eq.trans (World.drewN_drewN _ _ _) (congrArg (World.drewN _) (Nat.add_assoc _ _ _))⟩)) | (go_at_call 26; (with_reducible refine (estoverslaw02_sound.calls k _ _ l0 false _ ?side1 ?side2 A7.out).mono ?_); (case side1 => repeat (first | exact (Kd.C_below HR0.out (by repeat (first | (with_reducible first | exact HB.out | apply below_alloc | apply pw_below_drewN | apply below_drew1 | refine below_set ?_ GE421.out) | exact HB.out))) | (with_reducible refine Kd.C_alloc ?_ _) | (with_reducible refine Kd.C_drewN ?_ _) | (with_reducible refine Kd.C_drew ?_))); (case side2 => exact HC0.out); rintro e w' ⟨rfl, ⟨nd, rfl⟩⟩; (try first | exact ⟨rfl, _, World.drewN_drewN _ _ _⟩ | exact ⟨rfl, _, Eq.trans (World.drewN_drewN _ _ _) (congrArg (World.drewN _) (Nat.add_assoc _ _ _))⟩))); try go_wp2_with (first | (go_at_call 11; (refine (estoverslaw02_few.calls _ _ l0 _ _ ([] : List (S28)) true _ ?side1 ?side2 ?side3 ?side4 A5.out).mono ?_); (case side1 => repeat (first | exact (Kd.C_below HR0.out HB.out) | (with_reducible refine Kd.C_alloc ?_ _) | (with_reducible refine Kd.C_drewN ?_ _) | (with_reducible refine Kd.C_drew ?_))); (case side2 => exact HC0.out); (case side3 => exact Kd.C_nil _ _); (case side4 => exact Nat.le_refl _); rintro e w' ⟨rfl, ⟨nd, rfl⟩⟩; (try first | exact ⟨rfl, _, World.drewN_drewN _ _ _⟩ | exact ⟨rfl, _, Eq.trans (World.drewN_drewN _ _ _) (congrArg (World.drewN _) (Nat.add_assoc _ _ _))⟩)) | (go_at_call 26; (with_reducible refine (estoverslaw02_sound.calls k _ _ l0 false _ ?side1 ?side2 A7.out).mono ?_); (case side1 => repeat (first | exact (Kd.C_below HR0.out (by repeat (first | (with_reducible first | exact HB.out | apply below_alloc | apply pw_below_drewN | apply below_drew1 | refine below_set ?_ GE421.out) | exact HB.out))) | (with_reducible refine Kd.C_alloc ?_ _) | (with_reducible refine Kd.C_drewN ?_ _) | (with_reducible refine Kd.C_drew ?_))); (case side2 => exact HC0.out); rintro e w' ⟨rfl, ⟨nd, rfl⟩⟩; (try first | exact ⟨rfl, _, World.drewN_drewN _ _ _⟩ | exact ⟨rfl, _, Eq.trans (World.drewN_drewN _ _ _) (congrArg (World.drewN _) (Nat.add_assoc _ _ _))⟩))))
        go_meet
        case rel => exact ⟨_, (true), (by first | rfl | (simp; done) | (simp [*]; done)), H', ⟨by first | omega | exact Nat.le_refl _⟩, ⟨by (with_reducible repeat (first | refine blk_drewN ?_ _ | refine blk_drew ?_ | refine blk_alloc ?_ _)); exact BK421.out⟩, ⟨by repeat (first | (with_reducible first | exact HB.out | apply below_alloc | apply pw_below_drewN | apply below_drew1 | refine below_set ?_ GE421.out) | exact HB.out)⟩⟩
    · replace c6 := Bool.eq_false_iff.mpr c6
      subst c6
      have H1 : (estoverslaw02_IntervalFirst.j0 k l0 true a1_0 a1_1 a1_2) = some r := by rw [if_neg (show ¬ (false = true) by decide)] at H; exact H
      clear H
      have H := H1
      clear H1
      have H' := Aside0.mk H
      clear H
      go_wp2_with (first | (go_at_call 11; (refine (estoverslaw02_few.calls _ _ l0 _ _ ([] : List (S28)) false _ ?side1 ?side2 ?side3 ?side4 A5.out).mono ?_); (case side1 => repeat (first | exact (Kd.C_below HR0.out HB.out) | (with_reducible refine Kd.C_alloc ?_ _) | (with_reducible refine Kd.C_drewN ?_ _) | (with_reducible refine Kd.C_drew ?_))); (case side2 => exact HC0.out); (case side3 => exact Kd.C_nil _ _); (case side4 => exact Nat.le_refl _); rintro e w' ⟨rfl, ⟨nd, rfl⟩⟩; (try first | exact ⟨rfl, _, World.drewN_drewN _ _ _⟩ | exact ⟨rfl, _, Eq.trans (World.drewN_drewN _ _ _) (congrArg (World.drewN _) (Nat.add_assoc _ _ _))⟩)))
      repeat (go_quiet (first | (go_at_call 11; (refine (estoverslaw02_few.calls _ _ l0 _ _ ([] : List (S28)) false _ ?side1 ?side2 ?side3 ?side4 A5.out).mono ?_); (case side1 => repeat (first | exact (Kd.C_below HR0.out HB.out) | (with_reducible refine Kd.C_alloc ?_ _) | (with_reducible refine Kd.C_drewN ?_ _) | (with_reducible refine Kd.C_drew ?_))); (case side2 => exact HC0.out); (case side3 => exact Kd.C_nil _ _); (case side4 => exact Nat.le_refl _); rintro e w' ⟨rfl, ⟨nd, rfl⟩⟩; (try first | exact ⟨rfl, _, World.drewN_drewN _ _ _⟩ | exact ⟨rfl, _, Eq.trans (World.drewN_drewN _ _ _) (congrArg (World.drewN _) (Nat.add_assoc _ _ _))⟩))); try go_wp2_with (first | (go_at_call 11; (refine (estoverslaw02_few.calls _ _ l0 _ _ ([] : List (S28)) false _ ?side1 ?side2 ?side3 ?side4 A5.out).mono ?_); (case side1 => repeat (first | exact (Kd.C_below HR0.out HB.out) | (with_reducible refine Kd.C_alloc ?_ _) | (with_reducible refine Kd.C_drewN ?_ _) | (with_reducible refine Kd.C_drew ?_))); (case side2 => exact HC0.out); (case side3 => exact Kd.C_nil _ _); (case side4 => exact Nat.le_refl _); rintro e w' ⟨rfl, ⟨nd, rfl⟩⟩; (try first | exact ⟨rfl, _, World.drewN_drewN _ _ _⟩ | exact ⟨rfl, _, Eq.trans (World.drewN_drewN _ _ _) (congrArg (World.drewN _) (Nat.add_assoc _ _ _))⟩))))
      go_meet
      case rel => exact ⟨_, (true), (by first | rfl | (simp; done) | (simp [*]; done)), H', ⟨by first | omega | exact Nat.le_refl _⟩, ⟨by (with_reducible repeat (first | refine blk_drewN ?_ _ | refine blk_drew ?_ | refine blk_alloc ?_ _)); exact BK421.out⟩, ⟨by repeat (first | (with_reducible first | exact HB.out | apply below_alloc | apply pw_below_drewN | apply below_drew1 | refine below_set ?_ GE421.out) | exact HB.out)⟩⟩
  case rest =>
    clear HC3
    try clear c1
    try clear p2
    try clear c6
    try clear c8
    try clear c9
    try clear c9b0
    try clear c11
    try clear c11b0
    try clear hcz10_0
    try clear hcz10_1
    try clear hcz10_2
    try clear hcz12_0
    try clear hcz12_1
    try clear hcz12_2
    try clear hcz13_0
    try clear hcz13_1
    try clear hcz13_2
    try clear hfz10_0
    try clear hfz10_1
    try clear hfz10_2
    try clear hfz12_0
    try clear hfz12_1
    try clear hfz12_2
    try clear hfz13_0
    try clear hfz13_1
    try clear hfz13_2
    obtain ⟨kq, x36_2, rfl, HA, HJ2, BK421, HB⟩ := hcut
    cases kq with
    | zero => exact absurd HA.out (by simp [estoverslaw02_IntervalFirst.j0])
    | succ kj2 =>
      have H := HA.out
      clear HA
      simp only [estoverslaw02_IntervalFirst.j0] at H
      by_cases c14 : x36_2 = true
      · subst c14
        have H1 : ((estoverslaw02_awake.f kj2).bind fun t424 => (some t424)) = some r := by rw [if_pos rfl] at H; exact H
        clear H
        have H := H1
        clear H1
        replace H := Option.bind_eq_some_iff.mp H
        obtain ⟨t424, A150, H⟩ := H
        replace H : (some t424) = some r := H
        have A15 := Aside0.mk A150
        clear A150
        obtain rfl := Option.some.inj H
        go_wp2_with (first | (go_at_call 12; (with_reducible refine (estoverslaw02_awake.calls kj2  t424 _ A15.out).mono ?_); rintro e w16 ⟨rfl, hb⟩; have n0_ := Aside0.mk (blk_below (g := gb421) (o := .cells #[.int .i64 a1_0, .int .i64 a1_1, .int .i64 a1_2] 33 (0, 0)) (by (with_reducible repeat (first | refine blk_drewN ?_ _ | refine blk_drew ?_ | refine blk_alloc ?_ _)); exact BK421.out) hb); have n1_ := Aside0.mk (below_step (by repeat (first | (with_reducible first | exact HB.out | apply below_alloc | apply pw_below_drewN | apply below_drew1 | refine below_set ?_ GE421.out) | exact HB.out)) hb); clear BK421; clear HB; have BK421 := n0_; have HB := n1_; clear n0_ n1_; (try clear hb); (try clear hb2); (try clear hk); (try clear hi)))
        repeat (go_quiet (first | (go_at_call 12; (with_reducible refine (estoverslaw02_awake.calls kj2  t424 _ A15.out).mono ?_); rintro e w16 ⟨rfl, hb⟩; have n0_ := Aside0.mk (blk_below (g := gb421) (o := .cells #[.int .i64 a1_0, .int .i64 a1_1, .int .i64 a1_2] 33 (0, 0)) (by (with_reducible repeat (first | refine blk_drewN ?_ _ | refine blk_drew ?_ | refine blk_alloc ?_ _)); exact BK421.out) hb); have n1_ := Aside0.mk (below_step (by repeat (first | (with_reducible first | exact HB.out | apply below_alloc | apply pw_below_drewN | apply below_drew1 | refine below_set ?_ GE421.out) | exact HB.out)) hb); clear BK421; clear HB; have BK421 := n0_; have HB := n1_; clear n0_ n1_; (try clear hb); (try clear hb2); (try clear hk); (try clear hi))); try go_wp2_with (first | (go_at_call 12; (with_reducible refine (estoverslaw02_awake.calls kj2  t424 _ A15.out).mono ?_); rintro e w16 ⟨rfl, hb⟩; have n0_ := Aside0.mk (blk_below (g := gb421) (o := .cells #[.int .i64 a1_0, .int .i64 a1_1, .int .i64 a1_2] 33 (0, 0)) (by (with_reducible repeat (first | refine blk_drewN ?_ _ | refine blk_drew ?_ | refine blk_alloc ?_ _)); exact BK421.out) hb); have n1_ := Aside0.mk (below_step (by repeat (first | (with_reducible first | exact HB.out | apply below_alloc | apply pw_below_drewN | apply below_drew1 | refine below_set ?_ GE421.out) | exact HB.out)) hb); clear BK421; clear HB; have BK421 := n0_; have HB := n1_; clear n0_ n1_; (try clear hb); (try clear hb2); (try clear hk); (try clear hi))))
        go_ret
        exact ⟨by first | rfl | (simp [errW_none, errW_some] <;> rfl) | (simp [*, errW_none, errW_some] <;> rfl), by repeat (first | (with_reducible first | exact HB.out | apply below_alloc | apply pw_below_drewN | apply below_drew1 | refine below_set ?_ GE421.out) | exact HB.out)⟩
      · replace c14 := Bool.eq_false_iff.mpr c14
        subst c14
        have H1 : ((interval_FirstGap.f kj2 l0 a1_0 a1_1 a1_2).bind fun bt425 => ((interval_Gaps.f kj2 l0 a1_0 a1_1).bind fun bt427 => (if bt427.2 = 0 then (if bt425.2 = 0 then (estoverslaw02_IntervalFirst.j1 kj2 l0 bt425.1 bt425.2 bt427.1 false a1_0 a1_1 a1_2) else (estoverslaw02_IntervalFirst.j1 kj2 l0 bt425.1 bt425.2 bt427.1 (bt425.2 != 6) a1_0 a1_1 a1_2)) else (estoverslaw02_IntervalFirst.j1 kj2 l0 bt425.1 bt425.2 bt427.1 true a1_0 a1_1 a1_2)))) = some r := by rw [if_neg (show ¬ (false = true) by decide)] at H; exact H
        clear H
        have H := H1
        clear H1
        replace H := Option.bind_eq_some_iff.mp H
        obtain ⟨⟨t425, t426⟩, A170, H⟩ := H
        replace H : ((interval_Gaps.f kj2 l0 a1_0 a1_1).bind fun bt427 => (if bt427.2 = 0 then (if t426 = 0 then (estoverslaw02_IntervalFirst.j1 kj2 l0 t425 t426 bt427.1 false a1_0 a1_1 a1_2) else (estoverslaw02_IntervalFirst.j1 kj2 l0 t425 t426 bt427.1 (t426 != 6) a1_0 a1_1 a1_2)) else (estoverslaw02_IntervalFirst.j1 kj2 l0 t425 t426 bt427.1 true a1_0 a1_1 a1_2))) = some r := H
        have A17 := Aside0.mk A170
        clear A170
        replace H := Option.bind_eq_some_iff.mp H
        obtain ⟨⟨t427, t428⟩, A180, H⟩ := H
        replace H : (if t428 = 0 then (if t426 = 0 then (estoverslaw02_IntervalFirst.j1 kj2 l0 t425 t426 t427 false a1_0 a1_1 a1_2) else (estoverslaw02_IntervalFirst.j1 kj2 l0 t425 t426 t427 (t426 != 6) a1_0 a1_1 a1_2)) else (estoverslaw02_IntervalFirst.j1 kj2 l0 t425 t426 t427 true a1_0 a1_1 a1_2)) = some r := H
        have A18 := Aside0.mk A180
        clear A180
        have HC19 := Aside0.mk H
        clear H
        have hcz20_0 : wc.cell? ⟨gb421, 0, none⟩ = some (.int .i64 a1_0) := (blk_cell BK421.out 0).trans rfl
        have hcz20_1 : wc.cell? ⟨gb421, 1, none⟩ = some (.int .i64 a1_1) := (blk_cell BK421.out 1).trans rfl
        have hcz20_2 : wc.cell? ⟨gb421, 2, none⟩ = some (.int .i64 a1_2) := (blk_cell BK421.out 2).trans rfl
        have hfz20_0 := blk_frozen BK421.out 0
        have hfz20_1 := blk_frozen BK421.out 1
        have hfz20_2 := blk_frozen BK421.out 2
        go_upto_region 5 with (first | (go_at_call 24; (with_reducible refine (interval_FirstGap.calls kj2 _ _ l0 a1_0 a1_1 a1_2 t425 t426 _ ?side1 ?side2 A17.out).mono ?_); (case side1 => repeat (first | exact (Kd.C_below HR0.out HB.out) | (with_reducible refine Kd.C_alloc ?_ _) | (with_reducible refine Kd.C_drewN ?_ _) | (with_reducible refine Kd.C_drew ?_))); (case side2 => exact HC0.out); rintro e w21 ⟨rfl, hb⟩; have n0_ := Aside0.mk (blk_below (g := gb421) (o := .cells #[.int .i64 a1_0, .int .i64 a1_1, .int .i64 a1_2] 33 (0, 0)) (by (with_reducible repeat (first | refine blk_drewN ?_ _ | refine blk_drew ?_ | refine blk_alloc ?_ _)); exact BK421.out) hb); have n1_ := Aside0.mk (below_step (by repeat (first | (with_reducible first | exact HB.out | apply below_alloc | apply pw_below_drewN | apply below_drew1 | refine below_set ?_ GE421.out) | exact HB.out)) hb); clear BK421; clear HB; have BK421 := n0_; have HB := n1_; clear n0_ n1_; (try clear hb); (try clear hb2); (try clear hk); (try clear hi); have hcz22_0 : w21.cell? ⟨gb421, 0, none⟩ = some (.int .i64 a1_0) := (blk_cell BK421.out 0).trans rfl; have hcz22_1 : w21.cell? ⟨gb421, 1, none⟩ = some (.int .i64 a1_1) := (blk_cell BK421.out 1).trans rfl; have hcz22_2 : w21.cell? ⟨gb421, 2, none⟩ = some (.int .i64 a1_2) := (blk_cell BK421.out 2).trans rfl; have hfz22_0 := blk_frozen BK421.out 0; have hfz22_1 := blk_frozen BK421.out 1; have hfz22_2 := blk_frozen BK421.out 2) | (go_at_call 22; (with_reducible refine (interval_Gaps.calls kj2 _ _ l0 a1_0 a1_1 t427 t428 _ ?side1 ?side2 A18.out).mono ?_); (case side1 => repeat (first | exact (Kd.C_below HR0.out HB.out) | (with_reducible refine Kd.C_alloc ?_ _) | (with_reducible refine Kd.C_drewN ?_ _) | (with_reducible refine Kd.C_drew ?_))); (case side2 => exact HC0.out); rintro e w23 ⟨v429, rfl, ho0, hb⟩; have n0_ := Aside0.mk (Kd.R_lower ho0 (below_size (by repeat (first | (with_reducible first | exact HB.out | apply below_alloc | apply pw_below_drewN | apply below_drew1 | refine below_set ?_ GE421.out) | exact HB.out)))); have n1_ := Aside0.mk (blk_below (g := gb421) (o := .cells #[.int .i64 a1_0, .int .i64 a1_1, .int .i64 a1_2] 33 (0, 0)) (by (with_reducible repeat (first | refine blk_drewN ?_ _ | refine blk_drew ?_ | refine blk_alloc ?_ _)); exact BK421.out) hb); have n2_ := Aside0.mk (below_step (by repeat (first | (with_reducible first | exact HB.out | apply below_alloc | apply pw_below_drewN | apply below_drew1 | refine below_set ?_ GE421.out) | exact HB.out)) hb); clear BK421; clear HB; have HO430 := n0_; have BK421 := n1_; have HB := n2_; clear n0_ n1_ n2_; (try clear hb); (try clear hb2); (try clear hk); (try clear hi); (try clear ho0)))
        repeat (go_quiet (first | (go_at_call 24; (with_reducible refine (interval_FirstGap.calls kj2 _ _ l0 a1_0 a1_1 a1_2 t425 t426 _ ?side1 ?side2 A17.out).mono ?_); (case side1 => repeat (first | exact (Kd.C_below HR0.out HB.out) | (with_reducible refine Kd.C_alloc ?_ _) | (with_reducible refine Kd.C_drewN ?_ _) | (with_reducible refine Kd.C_drew ?_))); (case side2 => exact HC0.out); rintro e w21 ⟨rfl, hb⟩; have n0_ := Aside0.mk (blk_below (g := gb421) (o := .cells #[.int .i64 a1_0, .int .i64 a1_1, .int .i64 a1_2] 33 (0, 0)) (by (with_reducible repeat (first | refine blk_drewN ?_ _ | refine blk_drew ?_ | refine blk_alloc ?_ _)); exact BK421.out) hb); have n1_ := Aside0.mk (below_step (by repeat (first | (with_reducible first | exact HB.out | apply below_alloc | apply pw_below_drewN | apply below_drew1 | refine below_set ?_ GE421.out) | exact HB.out)) hb); clear BK421; clear HB; have BK421 := n0_; have HB := n1_; clear n0_ n1_; (try clear hb); (try clear hb2); (try clear hk); (try clear hi); have hcz22_0 : w21.cell? ⟨gb421, 0, none⟩ = some (.int .i64 a1_0) := (blk_cell BK421.out 0).trans rfl; have hcz22_1 : w21.cell? ⟨gb421, 1, none⟩ = some (.int .i64 a1_1) := (blk_cell BK421.out 1).trans rfl; have hcz22_2 : w21.cell? ⟨gb421, 2, none⟩ = some (.int .i64 a1_2) := (blk_cell BK421.out 2).trans rfl; have hfz22_0 := blk_frozen BK421.out 0; have hfz22_1 := blk_frozen BK421.out 1; have hfz22_2 := blk_frozen BK421.out 2) | (go_at_call 22; (with_reducible refine (interval_Gaps.calls kj2 _ _ l0 a1_0 a1_1 t427 t428 _ ?side1 ?side2 A18.out).mono ?_); (case side1 => repeat (first | exact (Kd.C_below HR0.out HB.out) | (with_reducible refine Kd.C_alloc ?_ _) | (with_reducible refine Kd.C_drewN ?_ _) | (with_reducible refine Kd.C_drew ?_))); (case side2 => exact HC0.out); rintro e w23 ⟨v429, rfl, ho0, hb⟩; have n0_ := Aside0.mk (Kd.R_lower ho0 (below_size (by repeat (first | (with_reducible first | exact HB.out | apply below_alloc | apply pw_below_drewN | apply below_drew1 | refine below_set ?_ GE421.out) | exact HB.out)))); have n1_ := Aside0.mk (blk_below (g := gb421) (o := .cells #[.int .i64 a1_0, .int .i64 a1_1, .int .i64 a1_2] 33 (0, 0)) (by (with_reducible repeat (first | refine blk_drewN ?_ _ | refine blk_drew ?_ | refine blk_alloc ?_ _)); exact BK421.out) hb); have n2_ := Aside0.mk (below_step (by repeat (first | (with_reducible first | exact HB.out | apply below_alloc | apply pw_below_drewN | apply below_drew1 | refine below_set ?_ GE421.out) | exact HB.out)) hb); clear BK421; clear HB; have HO430 := n0_; have BK421 := n1_; have HB := n2_; clear n0_ n1_ n2_; (try clear hb); (try clear hb2); (try clear hk); (try clear hi); (try clear ho0))); go_upto_region 5 with (first | (go_at_call 24; (with_reducible refine (interval_FirstGap.calls kj2 _ _ l0 a1_0 a1_1 a1_2 t425 t426 _ ?side1 ?side2 A17.out).mono ?_); (case side1 => repeat (first | exact (Kd.C_below HR0.out HB.out) | (with_reducible refine Kd.C_alloc ?_ _) | (with_reducible refine Kd.C_drewN ?_ _) | (with_reducible refine Kd.C_drew ?_))); (case side2 => exact HC0.out); rintro e w21 ⟨rfl, hb⟩; have n0_ := Aside0.mk (blk_below (g := gb421) (o := .cells #[.int .i64 a1_0, .int .i64 a1_1, .int .i64 a1_2] 33 (0, 0)) (by (with_reducible repeat (first | refine blk_drewN ?_ _ | refine blk_drew ?_ | refine blk_alloc ?_ _)); exact BK421.out) hb); have n1_ := Aside0.mk (below_step (by repeat (first | (with_reducible first | exact HB.out | apply below_alloc | apply pw_below_drewN | apply below_drew1 | refine below_set ?_ GE421.out) | exact HB.out)) hb); clear BK421; clear HB; have BK421 := n0_; have HB := n1_; clear n0_ n1_; (try clear hb); (try clear hb2); (try clear hk); (try clear hi); have hcz22_0 : w21.cell? ⟨gb421, 0, none⟩ = some (.int .i64 a1_0) := (blk_cell BK421.out 0).trans rfl; have hcz22_1 : w21.cell? ⟨gb421, 1, none⟩ = some (.int .i64 a1_1) := (blk_cell BK421.out 1).trans rfl; have hcz22_2 : w21.cell? ⟨gb421, 2, none⟩ = some (.int .i64 a1_2) := (blk_cell BK421.out 2).trans rfl; have hfz22_0 := blk_frozen BK421.out 0; have hfz22_1 := blk_frozen BK421.out 1; have hfz22_2 := blk_frozen BK421.out 2) | (go_at_call 22; (with_reducible refine (interval_Gaps.calls kj2 _ _ l0 a1_0 a1_1 t427 t428 _ ?side1 ?side2 A18.out).mono ?_); (case side1 => repeat (first | exact (Kd.C_below HR0.out HB.out) | (with_reducible refine Kd.C_alloc ?_ _) | (with_reducible refine Kd.C_drewN ?_ _) | (with_reducible refine Kd.C_drew ?_))); (case side2 => exact HC0.out); rintro e w23 ⟨v429, rfl, ho0, hb⟩; have n0_ := Aside0.mk (Kd.R_lower ho0 (below_size (by repeat (first | (with_reducible first | exact HB.out | apply below_alloc | apply pw_below_drewN | apply below_drew1 | refine below_set ?_ GE421.out) | exact HB.out)))); have n1_ := Aside0.mk (blk_below (g := gb421) (o := .cells #[.int .i64 a1_0, .int .i64 a1_1, .int .i64 a1_2] 33 (0, 0)) (by (with_reducible repeat (first | refine blk_drewN ?_ _ | refine blk_drew ?_ | refine blk_alloc ?_ _)); exact BK421.out) hb); have n2_ := Aside0.mk (below_step (by repeat (first | (with_reducible first | exact HB.out | apply below_alloc | apply pw_below_drewN | apply below_drew1 | refine below_set ?_ GE421.out) | exact HB.out)) hb); clear BK421; clear HB; have HO430 := n0_; have BK421 := n1_; have HB := n2_; clear n0_ n1_ n2_; (try clear hb); (try clear hb2); (try clear hk); (try clear hi); (try clear ho0))))
        (try simp only [Act.put, List.setIfInBounds_toArray, List.set_cons_zero, List.set_cons_succ])
        go_cut [67] (fun v67 wc => ∃ (kq : Nat) (x67_18 : Bool), v67 = .bool x67_18 ∧ Aside0 (estoverslaw02_IntervalFirst.j1 kq l0 t425 t426 t427 x67_18 a1_0 a1_1 a1_2 = some r) ∧ Aside0 (kq ≤ kj2) ∧ Aside0 (Kd.R k28 28 wc w.heap.size (fun _ => True) v429 t427) ∧ Aside0 (wc.heap[gb421]? = some (.cells #[.int .i64 a1_0, .int .i64 a1_1, .int .i64 a1_2] 33 (0, 0))) ∧ Aside0 (Below w.heap.size w wc))
        case first =>
          have H := HC19.out
          clear HC19
          by_cases c24 : t428 = 0
          · rw [if_pos c24] at H
            have c24b0 : (t428 == 0) = true := beq_iff_eq.mpr c24
            have c24b1 : (t428 != 0) = false := bne_eq_false_iff_eq.mpr c24
            clear c24
            (first | rw [c24b0] | (simp only [i64_w, i32_w]; rw [c24b0]) | skip)
            by_cases c25 : t426 = 0
            · rw [if_pos c25] at H
              have c25b0 : (t426 == 0) = true := beq_iff_eq.mpr c25
              have c25b1 : (t426 != 0) = false := bne_eq_false_iff_eq.mpr c25
              clear c25
              have H' := Aside0.mk H
              clear H
              go_wp2
              repeat (go_quiet (fail); try go_wp2)
              go_meet
              case rel => exact ⟨_, (false), (by first | rfl | (simp; done) | (simp [*]; done)), H', ⟨by have := HJ2.out; first | omega | exact Nat.le_refl _⟩, ⟨by (with_reducible repeat (first | apply Kd.R_alloc | apply Kd.R_drewN | apply Kd.R_drew)); exact HO430.out⟩, ⟨by (with_reducible repeat (first | refine blk_drewN ?_ _ | refine blk_drew ?_ | refine blk_alloc ?_ _)); exact BK421.out⟩, ⟨by repeat (first | (with_reducible first | exact HB.out | apply below_alloc | apply pw_below_drewN | apply below_drew1 | refine below_set ?_ GE421.out) | exact HB.out)⟩⟩
            · rw [if_neg c25] at H
              have c25b0 : (t426 == 0) = false := beq_eq_false_iff_ne.mpr c25
              have c25b1 : (t426 != 0) = true := bne_iff_ne.mpr c25
              have H' := Aside0.mk H
              clear H
              go_wp2
              repeat (go_quiet (fail); try go_wp2)
              go_meet
              case rel => exact ⟨_, ((t426 != 6)), (by first | rfl | (simp; done) | (simp [*]; done)), H', ⟨by have := HJ2.out; first | omega | exact Nat.le_refl _⟩, ⟨by (with_reducible repeat (first | apply Kd.R_alloc | apply Kd.R_drewN | apply Kd.R_drew)); exact HO430.out⟩, ⟨by (with_reducible repeat (first | refine blk_drewN ?_ _ | refine blk_drew ?_ | refine blk_alloc ?_ _)); exact BK421.out⟩, ⟨by repeat (first | (with_reducible first | exact HB.out | apply below_alloc | apply pw_below_drewN | apply below_drew1 | refine below_set ?_ GE421.out) | exact HB.out)⟩⟩
          · rw [if_neg c24] at H
            have c24b0 : (t428 == 0) = false := beq_eq_false_iff_ne.mpr c24
            have c24b1 : (t428 != 0) = true := bne_iff_ne.mpr c24
            (first | rw [c24b0] | (simp only [i64_w, i32_w]; rw [c24b0]) | skip)
            have H' := Aside0.mk H
            clear H
            go_wp2
            repeat (go_quiet (fail); try go_wp2)
            go_meet
            case rel => exact ⟨_, (true), (by first | rfl | (simp; done) | (simp [*]; done)), H', ⟨by have := HJ2.out; first | omega | exact Nat.le_refl _⟩, ⟨by (with_reducible repeat (first | apply Kd.R_alloc | apply Kd.R_drewN | apply Kd.R_drew)); exact HO430.out⟩, ⟨by (with_reducible repeat (first | refine blk_drewN ?_ _ | refine blk_drew ?_ | refine blk_alloc ?_ _)); exact BK421.out⟩, ⟨by repeat (first | (with_reducible first | exact HB.out | apply below_alloc | apply pw_below_drewN | apply below_drew1 | refine below_set ?_ GE421.out) | exact HB.out)⟩⟩
        case rest =>
          clear HC19
          try clear c1
          try clear c2
          try clear p2
          try clear c6
          try clear c8
          try clear c9
          try clear c9b0
          try clear c11
          try clear c11b0
          try clear c14
          try clear c24
          try clear c24b0
          try clear c24b1
          try clear c25
          try clear c25b0
          try clear c25b1
          try clear hcz10_0
          try clear hcz10_1
          try clear hcz10_2
          try clear hcz12_0
          try clear hcz12_1
          try clear hcz12_2
          try clear hcz13_0
          try clear hcz13_1
          try clear hcz13_2
          try clear hcz20_0
          try clear hcz20_1
          try clear hcz20_2
          try clear hcz22_0
          try clear hcz22_1
          try clear hcz22_2
          try clear hfz10_0
          try clear hfz10_1
          try clear hfz10_2
          try clear hfz12_0
          try clear hfz12_1
          try clear hfz12_2
          try clear hfz13_0
          try clear hfz13_1
          try clear hfz13_2
          try clear hfz20_0
          try clear hfz20_1
          try clear hfz20_2
          try clear hfz22_0
          try clear hfz22_1
          try clear hfz22_2
          try clear p2
          obtain ⟨kq, x67_18, rfl, HA, HJ18, HO_7, BK421, HB⟩ := hcut
          cases kq with
          | zero => exact absurd HA.out (by simp [estoverslaw02_IntervalFirst.j1])
          | succ kj18 =>
            have H := HA.out
            clear HA
            simp only [estoverslaw02_IntervalFirst.j1] at H
            by_cases c26 : x67_18 = true
            · subst c26
              have H1 : (some false) = some r := by rw [if_pos rfl] at H; exact H
              clear H
              have H := H1
              clear H1
              obtain rfl := Option.some.inj H
              go_wp2
              repeat (go_quiet (fail); try go_wp2)
              go_ret
              exact ⟨by first | rfl | (simp [errW_none, errW_some] <;> rfl) | (simp [*, errW_none, errW_some] <;> rfl), by repeat (first | (with_reducible first | exact HB.out | apply below_alloc | apply pw_below_drewN | apply below_drew1 | refine below_set ?_ GE421.out) | exact HB.out)⟩
            · replace c26 := Bool.eq_false_iff.mpr c26
              subst c26
              have H1 : (estoverslaw02_IntervalFirst.l0 kj18 l0 t425 t426 t427 0 a1_0 a1_1 a1_2) = some r := by rw [if_neg (show ¬ (false = true) by decide)] at H; exact H
              clear H
              have H := H1
              clear H1
              have H' := Aside0.mk H
              clear H
              go_wp2
              repeat (go_quiet (fail); try go_wp2)
              go_loopg [9] kj18 (fun kq v9 w' => ∃ (x9_3 : Int), v9 = .int .i64 x9_3 ∧ Aside0 (estoverslaw02_IntervalFirst.l0 kq l0 t425 t426 t427 x9_3 a1_0 a1_1 a1_2 = some r) ∧ Aside0 (kq ≤ kj18) ∧ Aside0 (Kd.R k28 28 w' w.heap.size (fun _ => True) v429 t427) ∧ Aside0 (w'.heap[gb421]? = some (.cells #[.int .i64 a1_0, .int .i64 a1_1, .int .i64 a1_2] 33 (0, 0))) ∧ Aside0 (Below w.heap.size w w'))
              case atStart => exact ⟨(0), (by first | rfl | (simp; done) | (simp [*]; done)), H', ⟨Nat.le_refl _⟩, ⟨by (with_reducible repeat (first | apply Kd.R_alloc | apply Kd.R_drewN | apply Kd.R_drew)); exact HO_7.out⟩, ⟨by (with_reducible repeat (first | refine blk_drewN ?_ _ | refine blk_drew ?_ | refine blk_alloc ?_ _)); exact BK421.out⟩, ⟨by repeat (first | (with_reducible first | exact HB.out | apply below_alloc | apply pw_below_drewN | apply below_drew1 | refine below_set ?_ GE421.out) | exact HB.out)⟩⟩
              case round =>
                clear H'
                try clear c1
                try clear c2
                try clear p2
                try clear c6
                try clear c8
                try clear c9
                try clear c9b0
                try clear c11
                try clear c11b0
                try clear c14
                try clear c24
                try clear c24b0
                try clear c24b1
                try clear c25
                try clear c25b0
                try clear c25b1
                try clear c26
                try clear hcz10_0
                try clear hcz10_1
                try clear hcz10_2
                try clear hcz12_0
                try clear hcz12_1
                try clear hcz12_2
                try clear hcz13_0
                try clear hcz13_1
                try clear hcz13_2
                try clear hcz20_0
                try clear hcz20_1
                try clear hcz20_2
                try clear hcz22_0
                try clear hcz22_1
                try clear hcz22_2
                try clear hfz10_0
                try clear hfz10_1
                try clear hfz10_2
                try clear hfz12_0
                try clear hfz12_1
                try clear hfz12_2
                try clear hfz13_0
                try clear hfz13_1
                try clear hfz13_2
                try clear hfz20_0
                try clear hfz20_1
                try clear hfz20_2
                try clear hfz22_0
                try clear hfz22_1
                try clear hfz22_2
                try clear p2
                obtain ⟨x9_3, rfl, HA, HK3, HO_7, BK421, HB⟩ := hrel
                cases gk with
                | zero => exact absurd HA.out (by simp [estoverslaw02_IntervalFirst.l0])
                | succ k3 =>
                  have H := HA.out
                  clear HA
                  simp only [estoverslaw02_IntervalFirst.l0] at H
                  by_cases c27 : x9_3 < (t427.length : Int)
                  · rw [if_pos c27] at H
                    have c27b0 : decide (x9_3 < (t427.length : Int)) = true := decide_eq_true c27
                    clear c27
                    by_cases c28 : 0 ≤ x9_3
                    · rw [if_pos c28] at H
                      have c28b0 : decide (0 ≤ x9_3) = true := decide_eq_true c28
                      clear c28
                      by_cases c29 : ((rd_T28 t427 x9_3).f0) ≥ ((rd_T28 t427 x9_3).f1)
                      · rw [if_pos c29] at H
                        have c29b0 : decide (((rd_T28 t427 x9_3).f1) ≤ ((rd_T28 t427 x9_3).f0)) = true := decide_eq_true c29
                        clear c29
                        obtain rfl := Option.some.inj H
                        obtain ⟨Ao30, co30, eo30⟩ := Kd.R_slice HO_7.out
                        subst eo30
                        have p431 : 0 ≤ (x9_3 : Int) := of_decide_eq_true (by first | (with_reducible assumption) | assumption)
                        have q431 : x9_3 < (t427.length : Int) := of_decide_eq_true (by first | (with_reducible assumption) | assumption)
                        obtain ⟨ad431, e431, hx431_0, hx431_1⟩ := at_T28 (Kd.R_reads' HO_7.out).2.2 x9_3 p431 q431
                        cases e431
                        replace p431 := eq_true p431
                        replace q431 := eq_true q431
                        have p432 : 0 ≤ (x9_3 : Int) := of_decide_eq_true (by first | (with_reducible assumption) | assumption)
                        have q432 : x9_3 < (t427.length : Int) := of_decide_eq_true (by first | (with_reducible assumption) | assumption)
                        obtain ⟨ad432, e432, hx432_0, hx432_1⟩ := at_T28 (Kd.R_reads' HO_7.out).2.2 x9_3 p432 q432
                        obtain rfl : ad431 = ad432 := (by injection e432)
                        replace p432 := eq_true p432
                        replace q432 := eq_true q432
                        have hcz31_0 : wr.cell? ⟨gb421, 0, none⟩ = some (.int .i64 a1_0) := (blk_cell BK421.out 0).trans rfl
                        have hcz31_1 : wr.cell? ⟨gb421, 1, none⟩ = some (.int .i64 a1_1) := (blk_cell BK421.out 1).trans rfl
                        have hcz31_2 : wr.cell? ⟨gb421, 2, none⟩ = some (.int .i64 a1_2) := (blk_cell BK421.out 2).trans rfl
                        have hfz31_0 := blk_frozen BK421.out 0
                        have hfz31_1 := blk_frozen BK421.out 1
                        have hfz31_2 := blk_frozen BK421.out 2
                        have p433 : 0 ≤ (x9_3 : Int) := of_decide_eq_true (by first | (with_reducible assumption) | assumption)
                        have q433 : x9_3 < (t427.length : Int) := of_decide_eq_true (by first | (with_reducible assumption) | assumption)
                        obtain ⟨ad433, e433, hx433_0, hx433_1⟩ := at_T28 (Kd.R_reads' HO_7.out).2.2 x9_3 p433 q433
                        obtain rfl : ad431 = ad433 := (by injection e433)
                        replace p433 := eq_true p433
                        replace q433 := eq_true q433
                        have p434 : 0 ≤ (x9_3 : Int) := of_decide_eq_true (by first | (with_reducible assumption) | assumption)
                        have q434 : x9_3 < (t427.length : Int) := of_decide_eq_true (by first | (with_reducible assumption) | assumption)
                        obtain ⟨ad434, e434, hx434_0, hx434_1⟩ := at_T28 (Kd.R_reads' HO_7.out).2.2 x9_3 p434 q434
                        obtain rfl : ad431 = ad434 := (by injection e434)
                        replace p434 := eq_true p434
                        replace q434 := eq_true q434
                        go_wp2
                        repeat (go_quiet (fail); try go_wp2)
                        go_ret
                        exact ⟨by first | rfl | (simp [errW_none, errW_some] <;> rfl) | (simp [*, errW_none, errW_some] <;> rfl), by repeat (first | (with_reducible first | exact HB.out | apply below_alloc | apply pw_below_drewN | apply below_drew1 | refine below_set ?_ GE421.out) | exact HB.out)⟩
                      · rw [if_neg c29] at H
                        have c29b0 : decide (((rd_T28 t427 x9_3).f1) ≤ ((rd_T28 t427 x9_3).f0)) = false := decide_eq_false c29
                        clear c29
                        by_cases c32 : (IntKind.u64.wrap ((IntKind.u64.wrap ((rd_T28 t427 x9_3).f1)) - (IntKind.u64.wrap ((rd_T28 t427 x9_3).f0)))) ≥ (IntKind.u64.wrap (a1_2))
                        · rw [if_pos c32] at H
                          have c32b0 : decide ((IntKind.u64.wrap (a1_2)) ≤ (IntKind.u64.wrap ((IntKind.u64.wrap ((rd_T28 t427 x9_3).f1)) - (IntKind.u64.wrap ((rd_T28 t427 x9_3).f0))))) = true := decide_eq_true c32
                          clear c32
                          by_cases c33 : t426 = 0
                          · rw [if_pos c33] at H
                            have c33b0 : (t426 == 0) = true := beq_iff_eq.mpr c33
                            have c33b1 : (t426 != 0) = false := bne_eq_false_iff_eq.mpr c33
                            clear c33
                            by_cases c34 : ((rd_T28 t427 x9_3).f0) < t425
                            · rw [if_pos c34] at H
                              have c34b0 : decide (((rd_T28 t427 x9_3).f0) < t425) = true := decide_eq_true c34
                              clear c34
                              obtain rfl := Option.some.inj H
                              obtain ⟨Ao35, co35, eo35⟩ := Kd.R_slice HO_7.out
                              subst eo35
                              have p431 : 0 ≤ (x9_3 : Int) := of_decide_eq_true (by first | (with_reducible assumption) | assumption)
                              have q431 : x9_3 < (t427.length : Int) := of_decide_eq_true (by first | (with_reducible assumption) | assumption)
                              obtain ⟨ad431, e431, hx431_0, hx431_1⟩ := at_T28 (Kd.R_reads' HO_7.out).2.2 x9_3 p431 q431
                              cases e431
                              replace p431 := eq_true p431
                              replace q431 := eq_true q431
                              have p432 : 0 ≤ (x9_3 : Int) := of_decide_eq_true (by first | (with_reducible assumption) | assumption)
                              have q432 : x9_3 < (t427.length : Int) := of_decide_eq_true (by first | (with_reducible assumption) | assumption)
                              obtain ⟨ad432, e432, hx432_0, hx432_1⟩ := at_T28 (Kd.R_reads' HO_7.out).2.2 x9_3 p432 q432
                              obtain rfl : ad431 = ad432 := (by injection e432)
                              replace p432 := eq_true p432
                              replace q432 := eq_true q432
                              have hcz36_0 : wr.cell? ⟨gb421, 0, none⟩ = some (.int .i64 a1_0) := (blk_cell BK421.out 0).trans rfl
                              have hcz36_1 : wr.cell? ⟨gb421, 1, none⟩ = some (.int .i64 a1_1) := (blk_cell BK421.out 1).trans rfl
                              have hcz36_2 : wr.cell? ⟨gb421, 2, none⟩ = some (.int .i64 a1_2) := (blk_cell BK421.out 2).trans rfl
                              have hfz36_0 := blk_frozen BK421.out 0
                              have hfz36_1 := blk_frozen BK421.out 1
                              have hfz36_2 := blk_frozen BK421.out 2
                              have p433 : 0 ≤ (x9_3 : Int) := of_decide_eq_true (by first | (with_reducible assumption) | assumption)
                              have q433 : x9_3 < (t427.length : Int) := of_decide_eq_true (by first | (with_reducible assumption) | assumption)
                              obtain ⟨ad433, e433, hx433_0, hx433_1⟩ := at_T28 (Kd.R_reads' HO_7.out).2.2 x9_3 p433 q433
                              obtain rfl : ad431 = ad433 := (by injection e433)
                              replace p433 := eq_true p433
                              replace q433 := eq_true q433
                              have p434 : 0 ≤ (x9_3 : Int) := of_decide_eq_true (by first | (with_reducible assumption) | assumption)
                              have q434 : x9_3 < (t427.length : Int) := of_decide_eq_true (by first | (with_reducible assumption) | assumption)
                              obtain ⟨ad434, e434, hx434_0, hx434_1⟩ := at_T28 (Kd.R_reads' HO_7.out).2.2 x9_3 p434 q434
                              obtain rfl : ad431 = ad434 := (by injection e434)
                              replace p434 := eq_true p434
                              replace q434 := eq_true q434
                              have p435 : 0 ≤ (x9_3 : Int) := of_decide_eq_true (by first | (with_reducible assumption) | assumption)
                              have q435 : x9_3 < (t427.length : Int) := of_decide_eq_true (by first | (with_reducible assumption) | assumption)
                              obtain ⟨ad435, e435, hx435_0, hx435_1⟩ := at_T28 (Kd.R_reads' HO_7.out).2.2 x9_3 p435 q435
                              obtain rfl : ad431 = ad435 := (by injection e435)
                              replace p435 := eq_true p435
                              replace q435 := eq_true q435
                              go_wp2
                              repeat (go_quiet (fail); try go_wp2)
                              go_ret
                              exact ⟨by first | rfl | (simp [errW_none, errW_some] <;> rfl) | (simp [*, errW_none, errW_some] <;> rfl), by repeat (first | (with_reducible first | exact HB.out | apply below_alloc | apply pw_below_drewN | apply below_drew1 | refine below_set ?_ GE421.out) | exact HB.out)⟩
                            · rw [if_neg c34] at H
                              have c34b0 : decide (((rd_T28 t427 x9_3).f0) < t425) = false := decide_eq_false c34
                              clear c34
                              have H' := Aside0.mk H
                              clear H
                              obtain ⟨Ao37, co37, eo37⟩ := Kd.R_slice HO_7.out
                              subst eo37
                              have p431 : 0 ≤ (x9_3 : Int) := of_decide_eq_true (by first | (with_reducible assumption) | assumption)
                              have q431 : x9_3 < (t427.length : Int) := of_decide_eq_true (by first | (with_reducible assumption) | assumption)
                              obtain ⟨ad431, e431, hx431_0, hx431_1⟩ := at_T28 (Kd.R_reads' HO_7.out).2.2 x9_3 p431 q431
                              cases e431
                              replace p431 := eq_true p431
                              replace q431 := eq_true q431
                              have p432 : 0 ≤ (x9_3 : Int) := of_decide_eq_true (by first | (with_reducible assumption) | assumption)
                              have q432 : x9_3 < (t427.length : Int) := of_decide_eq_true (by first | (with_reducible assumption) | assumption)
                              obtain ⟨ad432, e432, hx432_0, hx432_1⟩ := at_T28 (Kd.R_reads' HO_7.out).2.2 x9_3 p432 q432
                              obtain rfl : ad431 = ad432 := (by injection e432)
                              replace p432 := eq_true p432
                              replace q432 := eq_true q432
                              have hcz38_0 : wr.cell? ⟨gb421, 0, none⟩ = some (.int .i64 a1_0) := (blk_cell BK421.out 0).trans rfl
                              have hcz38_1 : wr.cell? ⟨gb421, 1, none⟩ = some (.int .i64 a1_1) := (blk_cell BK421.out 1).trans rfl
                              have hcz38_2 : wr.cell? ⟨gb421, 2, none⟩ = some (.int .i64 a1_2) := (blk_cell BK421.out 2).trans rfl
                              have hfz38_0 := blk_frozen BK421.out 0
                              have hfz38_1 := blk_frozen BK421.out 1
                              have hfz38_2 := blk_frozen BK421.out 2
                              have p433 : 0 ≤ (x9_3 : Int) := of_decide_eq_true (by first | (with_reducible assumption) | assumption)
                              have q433 : x9_3 < (t427.length : Int) := of_decide_eq_true (by first | (with_reducible assumption) | assumption)
                              obtain ⟨ad433, e433, hx433_0, hx433_1⟩ := at_T28 (Kd.R_reads' HO_7.out).2.2 x9_3 p433 q433
                              obtain rfl : ad431 = ad433 := (by injection e433)
                              replace p433 := eq_true p433
                              replace q433 := eq_true q433
                              have p434 : 0 ≤ (x9_3 : Int) := of_decide_eq_true (by first | (with_reducible assumption) | assumption)
                              have q434 : x9_3 < (t427.length : Int) := of_decide_eq_true (by first | (with_reducible assumption) | assumption)
                              obtain ⟨ad434, e434, hx434_0, hx434_1⟩ := at_T28 (Kd.R_reads' HO_7.out).2.2 x9_3 p434 q434
                              obtain rfl : ad431 = ad434 := (by injection e434)
                              replace p434 := eq_true p434
                              replace q434 := eq_true q434
                              have p435 : 0 ≤ (x9_3 : Int) := of_decide_eq_true (by first | (with_reducible assumption) | assumption)
                              have q435 : x9_3 < (t427.length : Int) := of_decide_eq_true (by first | (with_reducible assumption) | assumption)
                              obtain ⟨ad435, e435, hx435_0, hx435_1⟩ := at_T28 (Kd.R_reads' HO_7.out).2.2 x9_3 p435 q435
                              obtain rfl : ad431 = ad435 := (by injection e435)
                              replace p435 := eq_true p435
                              replace q435 := eq_true q435
                              go_wp2
                              repeat (go_quiet (fail); try go_wp2)
                              go_roundg k3
                              case measure => have := HJ2.out; have := HJ18.out; have := HK3.out; omega
                              case rel => exact ⟨(wrap64 (x9_3 + 1)), (by first | rfl | (simp; done) | (simp [*]; done)), H', ⟨by have := HJ2.out; have := HJ18.out; have := HK3.out; omega⟩, ⟨by (with_reducible repeat (first | apply Kd.R_alloc | apply Kd.R_drewN | apply Kd.R_drew)); exact HO_7.out⟩, ⟨by (with_reducible repeat (first | refine blk_drewN ?_ _ | refine blk_drew ?_ | refine blk_alloc ?_ _)); exact BK421.out⟩, ⟨by repeat (first | (with_reducible first | exact HB.out | apply below_alloc | apply pw_below_drewN | apply below_drew1 | refine below_set ?_ GE421.out) | exact HB.out)⟩⟩
                          · rw [if_neg c33] at H
                            have c33b0 : (t426 == 0) = false := beq_eq_false_iff_ne.mpr c33
                            have c33b1 : (t426 != 0) = true := bne_iff_ne.mpr c33
                            obtain rfl := Option.some.inj H
                            obtain ⟨Ao39, co39, eo39⟩ := Kd.R_slice HO_7.out
                            subst eo39
                            have p431 : 0 ≤ (x9_3 : Int) := of_decide_eq_true (by first | (with_reducible assumption) | assumption)
                            have q431 : x9_3 < (t427.length : Int) := of_decide_eq_true (by first | (with_reducible assumption) | assumption)
                            obtain ⟨ad431, e431, hx431_0, hx431_1⟩ := at_T28 (Kd.R_reads' HO_7.out).2.2 x9_3 p431 q431
                            cases e431
                            replace p431 := eq_true p431
                            replace q431 := eq_true q431
                            have p432 : 0 ≤ (x9_3 : Int) := of_decide_eq_true (by first | (with_reducible assumption) | assumption)
                            have q432 : x9_3 < (t427.length : Int) := of_decide_eq_true (by first | (with_reducible assumption) | assumption)
                            obtain ⟨ad432, e432, hx432_0, hx432_1⟩ := at_T28 (Kd.R_reads' HO_7.out).2.2 x9_3 p432 q432
                            obtain rfl : ad431 = ad432 := (by injection e432)
                            replace p432 := eq_true p432
                            replace q432 := eq_true q432
                            have hcz40_0 : wr.cell? ⟨gb421, 0, none⟩ = some (.int .i64 a1_0) := (blk_cell BK421.out 0).trans rfl
                            have hcz40_1 : wr.cell? ⟨gb421, 1, none⟩ = some (.int .i64 a1_1) := (blk_cell BK421.out 1).trans rfl
                            have hcz40_2 : wr.cell? ⟨gb421, 2, none⟩ = some (.int .i64 a1_2) := (blk_cell BK421.out 2).trans rfl
                            have hfz40_0 := blk_frozen BK421.out 0
                            have hfz40_1 := blk_frozen BK421.out 1
                            have hfz40_2 := blk_frozen BK421.out 2
                            have p433 : 0 ≤ (x9_3 : Int) := of_decide_eq_true (by first | (with_reducible assumption) | assumption)
                            have q433 : x9_3 < (t427.length : Int) := of_decide_eq_true (by first | (with_reducible assumption) | assumption)
                            obtain ⟨ad433, e433, hx433_0, hx433_1⟩ := at_T28 (Kd.R_reads' HO_7.out).2.2 x9_3 p433 q433
                            obtain rfl : ad431 = ad433 := (by injection e433)
                            replace p433 := eq_true p433
                            replace q433 := eq_true q433
                            have p434 : 0 ≤ (x9_3 : Int) := of_decide_eq_true (by first | (with_reducible assumption) | assumption)
                            have q434 : x9_3 < (t427.length : Int) := of_decide_eq_true (by first | (with_reducible assumption) | assumption)
                            obtain ⟨ad434, e434, hx434_0, hx434_1⟩ := at_T28 (Kd.R_reads' HO_7.out).2.2 x9_3 p434 q434
                            obtain rfl : ad431 = ad434 := (by injection e434)
                            replace p434 := eq_true p434
                            replace q434 := eq_true q434
                            go_wp2
                            repeat (go_quiet (fail); try go_wp2)
                            go_ret
                            exact ⟨by first | rfl | (simp [errW_none, errW_some] <;> rfl) | (simp [*, errW_none, errW_some] <;> rfl), by repeat (first | (with_reducible first | exact HB.out | apply below_alloc | apply pw_below_drewN | apply below_drew1 | refine below_set ?_ GE421.out) | exact HB.out)⟩
                        · rw [if_neg c32] at H
                          have c32b0 : decide ((IntKind.u64.wrap (a1_2)) ≤ (IntKind.u64.wrap ((IntKind.u64.wrap ((rd_T28 t427 x9_3).f1)) - (IntKind.u64.wrap ((rd_T28 t427 x9_3).f0))))) = false := decide_eq_false c32
                          clear c32
                          have H' := Aside0.mk H
                          clear H
                          obtain ⟨Ao41, co41, eo41⟩ := Kd.R_slice HO_7.out
                          subst eo41
                          have p431 : 0 ≤ (x9_3 : Int) := of_decide_eq_true (by first | (with_reducible assumption) | assumption)
                          have q431 : x9_3 < (t427.length : Int) := of_decide_eq_true (by first | (with_reducible assumption) | assumption)
                          obtain ⟨ad431, e431, hx431_0, hx431_1⟩ := at_T28 (Kd.R_reads' HO_7.out).2.2 x9_3 p431 q431
                          cases e431
                          replace p431 := eq_true p431
                          replace q431 := eq_true q431
                          have p432 : 0 ≤ (x9_3 : Int) := of_decide_eq_true (by first | (with_reducible assumption) | assumption)
                          have q432 : x9_3 < (t427.length : Int) := of_decide_eq_true (by first | (with_reducible assumption) | assumption)
                          obtain ⟨ad432, e432, hx432_0, hx432_1⟩ := at_T28 (Kd.R_reads' HO_7.out).2.2 x9_3 p432 q432
                          obtain rfl : ad431 = ad432 := (by injection e432)
                          replace p432 := eq_true p432
                          replace q432 := eq_true q432
                          have hcz42_0 : wr.cell? ⟨gb421, 0, none⟩ = some (.int .i64 a1_0) := (blk_cell BK421.out 0).trans rfl
                          have hcz42_1 : wr.cell? ⟨gb421, 1, none⟩ = some (.int .i64 a1_1) := (blk_cell BK421.out 1).trans rfl
                          have hcz42_2 : wr.cell? ⟨gb421, 2, none⟩ = some (.int .i64 a1_2) := (blk_cell BK421.out 2).trans rfl
                          have hfz42_0 := blk_frozen BK421.out 0
                          have hfz42_1 := blk_frozen BK421.out 1
                          have hfz42_2 := blk_frozen BK421.out 2
                          have p433 : 0 ≤ (x9_3 : Int) := of_decide_eq_true (by first | (with_reducible assumption) | assumption)
                          have q433 : x9_3 < (t427.length : Int) := of_decide_eq_true (by first | (with_reducible assumption) | assumption)
                          obtain ⟨ad433, e433, hx433_0, hx433_1⟩ := at_T28 (Kd.R_reads' HO_7.out).2.2 x9_3 p433 q433
                          obtain rfl : ad431 = ad433 := (by injection e433)
                          replace p433 := eq_true p433
                          replace q433 := eq_true q433
                          have p434 : 0 ≤ (x9_3 : Int) := of_decide_eq_true (by first | (with_reducible assumption) | assumption)
                          have q434 : x9_3 < (t427.length : Int) := of_decide_eq_true (by first | (with_reducible assumption) | assumption)
                          obtain ⟨ad434, e434, hx434_0, hx434_1⟩ := at_T28 (Kd.R_reads' HO_7.out).2.2 x9_3 p434 q434
                          obtain rfl : ad431 = ad434 := (by injection e434)
                          replace p434 := eq_true p434
                          replace q434 := eq_true q434
                          go_wp2
                          repeat (go_quiet (fail); try go_wp2)
                          go_roundg k3
                          case measure => have := HJ2.out; have := HJ18.out; have := HK3.out; omega
                          case rel => exact ⟨(wrap64 (x9_3 + 1)), (by first | rfl | (simp; done) | (simp [*]; done)), H', ⟨by have := HJ2.out; have := HJ18.out; have := HK3.out; omega⟩, ⟨by (with_reducible repeat (first | apply Kd.R_alloc | apply Kd.R_drewN | apply Kd.R_drew)); exact HO_7.out⟩, ⟨by (with_reducible repeat (first | refine blk_drewN ?_ _ | refine blk_drew ?_ | refine blk_alloc ?_ _)); exact BK421.out⟩, ⟨by repeat (first | (with_reducible first | exact HB.out | apply below_alloc | apply pw_below_drewN | apply below_drew1 | refine below_set ?_ GE421.out) | exact HB.out)⟩⟩
                    · rw [if_neg c28] at H
                      exact absurd H (by simp)
                  · rw [if_neg c27] at H
                    have c27b0 : decide (x9_3 < (t427.length : Int)) = false := decide_eq_false c27
                    clear c27
                    by_cases c43 : t426 = 6
                    · rw [if_pos c43] at H
                      have c43b0 : (t426 == 6) = true := beq_iff_eq.mpr c43
                      have c43b1 : (t426 != 6) = false := bne_eq_false_iff_eq.mpr c43
                      clear c43
                      by_cases c44 : t425 = 0
                      · rw [if_pos c44] at H
                        have c44b0 : (t425 == 0) = true := beq_iff_eq.mpr c44
                        have c44b1 : (t425 != 0) = false := bne_eq_false_iff_eq.mpr c44
                        clear c44
                        replace H := Option.bind_eq_some_iff.mp H
                        obtain ⟨t436, A450, H⟩ := H
                        replace H : (some t436) = some r := H
                        have A45 := Aside0.mk A450
                        clear A450
                        obtain rfl := Option.some.inj H
                        obtain ⟨Ao46, co46, eo46⟩ := Kd.R_slice HO_7.out
                        subst eo46
                        go_wp2_with (first | (go_at_call 12; (with_reducible refine (estoverslaw02_awake.calls k3  t436 _ A45.out).mono ?_); rintro e w47 ⟨rfl, hb⟩; have n0_ := Aside0.mk (Kd.R_below (by (with_reducible repeat (first | apply Kd.R_alloc | apply Kd.R_drewN | apply Kd.R_drew)); exact HO_7.out) hb); have n1_ := Aside0.mk (blk_below (g := gb421) (o := .cells #[.int .i64 a1_0, .int .i64 a1_1, .int .i64 a1_2] 33 (0, 0)) (by (with_reducible repeat (first | refine blk_drewN ?_ _ | refine blk_drew ?_ | refine blk_alloc ?_ _)); exact BK421.out) hb); have n2_ := Aside0.mk (below_step (by repeat (first | (with_reducible first | exact HB.out | apply below_alloc | apply pw_below_drewN | apply below_drew1 | refine below_set ?_ GE421.out) | exact HB.out)) hb); clear HO_7; clear BK421; clear HB; have HO_7 := n0_; have BK421 := n1_; have HB := n2_; clear n0_ n1_ n2_; (try clear hb); (try clear hb2); (try clear hk); (try clear hi)))
                        repeat (go_quiet (first | (go_at_call 12; (with_reducible refine (estoverslaw02_awake.calls k3  t436 _ A45.out).mono ?_); rintro e w47 ⟨rfl, hb⟩; have n0_ := Aside0.mk (Kd.R_below (by (with_reducible repeat (first | apply Kd.R_alloc | apply Kd.R_drewN | apply Kd.R_drew)); exact HO_7.out) hb); have n1_ := Aside0.mk (blk_below (g := gb421) (o := .cells #[.int .i64 a1_0, .int .i64 a1_1, .int .i64 a1_2] 33 (0, 0)) (by (with_reducible repeat (first | refine blk_drewN ?_ _ | refine blk_drew ?_ | refine blk_alloc ?_ _)); exact BK421.out) hb); have n2_ := Aside0.mk (below_step (by repeat (first | (with_reducible first | exact HB.out | apply below_alloc | apply pw_below_drewN | apply below_drew1 | refine below_set ?_ GE421.out) | exact HB.out)) hb); clear HO_7; clear BK421; clear HB; have HO_7 := n0_; have BK421 := n1_; have HB := n2_; clear n0_ n1_ n2_; (try clear hb); (try clear hb2); (try clear hk); (try clear hi))); try go_wp2_with (first | (go_at_call 12; (with_reducible refine (estoverslaw02_awake.calls k3  t436 _ A45.out).mono ?_); rintro e w47 ⟨rfl, hb⟩; have n0_ := Aside0.mk (Kd.R_below (by (with_reducible repeat (first | apply Kd.R_alloc | apply Kd.R_drewN | apply Kd.R_drew)); exact HO_7.out) hb); have n1_ := Aside0.mk (blk_below (g := gb421) (o := .cells #[.int .i64 a1_0, .int .i64 a1_1, .int .i64 a1_2] 33 (0, 0)) (by (with_reducible repeat (first | refine blk_drewN ?_ _ | refine blk_drew ?_ | refine blk_alloc ?_ _)); exact BK421.out) hb); have n2_ := Aside0.mk (below_step (by repeat (first | (with_reducible first | exact HB.out | apply below_alloc | apply pw_below_drewN | apply below_drew1 | refine below_set ?_ GE421.out) | exact HB.out)) hb); clear HO_7; clear BK421; clear HB; have HO_7 := n0_; have BK421 := n1_; have HB := n2_; clear n0_ n1_ n2_; (try clear hb); (try clear hb2); (try clear hk); (try clear hi))))
                        go_ret
                        exact ⟨by first | rfl | (simp [errW_none, errW_some] <;> rfl) | (simp [*, errW_none, errW_some] <;> rfl), by repeat (first | (with_reducible first | exact HB.out | apply below_alloc | apply pw_below_drewN | apply below_drew1 | refine below_set ?_ GE421.out) | exact HB.out)⟩
                      · rw [if_neg c44] at H
                        have c44b0 : (t425 == 0) = false := beq_eq_false_iff_ne.mpr c44
                        have c44b1 : (t425 != 0) = true := bne_iff_ne.mpr c44
                        obtain rfl := Option.some.inj H
                        obtain ⟨Ao48, co48, eo48⟩ := Kd.R_slice HO_7.out
                        subst eo48
                        go_wp2
                        repeat (go_quiet (fail); try go_wp2)
                        go_ret
                        exact ⟨by first | rfl | (simp [errW_none, errW_some] <;> rfl) | (simp [*, errW_none, errW_some] <;> rfl), by repeat (first | (with_reducible first | exact HB.out | apply below_alloc | apply pw_below_drewN | apply below_drew1 | refine below_set ?_ GE421.out) | exact HB.out)⟩
                    · rw [if_neg c43] at H
                      have c43b0 : (t426 == 6) = false := beq_eq_false_iff_ne.mpr c43
                      have c43b1 : (t426 != 6) = true := bne_iff_ne.mpr c43
                      have HC49 := Aside0.mk H
                      clear H
                      obtain ⟨Ao50, co50, eo50⟩ := Kd.R_slice HO_7.out
                      subst eo50
                      go_upto_region 15 with (fail)
                      repeat (go_quiet (fail); go_upto_region 15 with (fail))
                      go_cut [146] (fun v146 wc => ∃ (kq : Nat) (x146_48 : Bool), v146 = .bool x146_48 ∧ Aside0 (estoverslaw02_IntervalFirst.j3 kq l0 t425 x146_48 a1_0 a1_1 a1_2 = some r) ∧ Aside0 (kq ≤ k3) ∧ Aside0 (wc.heap[gb421]? = some (.cells #[.int .i64 a1_0, .int .i64 a1_1, .int .i64 a1_2] 33 (0, 0))) ∧ Aside0 (Below w.heap.size w wc))
                      case first =>
                        have H := HC49.out
                        clear HC49
                        by_cases c51 : t425 < a1_0
                        · rw [if_pos c51] at H
                          have c51b0 : decide (t425 < a1_0) = true := decide_eq_true c51
                          clear c51
                          (first | rw [c51b0] | (simp only [i64_w, i32_w]; rw [c51b0]) | skip)
                          have H' := Aside0.mk H
                          clear H
                          have hcz52_0 : wr.cell? ⟨gb421, 0, none⟩ = some (.int .i64 a1_0) := (blk_cell BK421.out 0).trans rfl
                          have hcz52_1 : wr.cell? ⟨gb421, 1, none⟩ = some (.int .i64 a1_1) := (blk_cell BK421.out 1).trans rfl
                          have hcz52_2 : wr.cell? ⟨gb421, 2, none⟩ = some (.int .i64 a1_2) := (blk_cell BK421.out 2).trans rfl
                          have hfz52_0 := blk_frozen BK421.out 0
                          have hfz52_1 := blk_frozen BK421.out 1
                          have hfz52_2 := blk_frozen BK421.out 2
                          go_wp2
                          repeat (go_quiet (fail); try go_wp2)
                          go_meet
                          case rel => exact ⟨_, (true), (by first | rfl | (simp; done) | (simp [*]; done)), H', ⟨by have := HJ2.out; have := HJ18.out; have := HK3.out; first | omega | exact Nat.le_refl _⟩, ⟨by (with_reducible repeat (first | refine blk_drewN ?_ _ | refine blk_drew ?_ | refine blk_alloc ?_ _)); exact BK421.out⟩, ⟨by repeat (first | (with_reducible first | exact HB.out | apply below_alloc | apply pw_below_drewN | apply below_drew1 | refine below_set ?_ GE421.out) | exact HB.out)⟩⟩
                        · rw [if_neg c51] at H
                          have c51b0 : decide (t425 < a1_0) = false := decide_eq_false c51
                          clear c51
                          (first | rw [c51b0] | (simp only [i64_w, i32_w]; rw [c51b0]) | skip)
                          by_cases c53 : t425 ≥ a1_1
                          · rw [if_pos c53] at H
                            have c53b0 : decide (a1_1 ≤ t425) = true := decide_eq_true c53
                            clear c53
                            have H' := Aside0.mk H
                            clear H
                            have hcz54_0 : wr.cell? ⟨gb421, 0, none⟩ = some (.int .i64 a1_0) := (blk_cell BK421.out 0).trans rfl
                            have hcz54_1 : wr.cell? ⟨gb421, 1, none⟩ = some (.int .i64 a1_1) := (blk_cell BK421.out 1).trans rfl
                            have hcz54_2 : wr.cell? ⟨gb421, 2, none⟩ = some (.int .i64 a1_2) := (blk_cell BK421.out 2).trans rfl
                            have hfz54_0 := blk_frozen BK421.out 0
                            have hfz54_1 := blk_frozen BK421.out 1
                            have hfz54_2 := blk_frozen BK421.out 2
                            go_wp2
                            repeat (go_quiet (fail); try go_wp2)
                            go_meet
                            case rel => exact ⟨_, (true), (by first | rfl | (simp; done) | (simp [*]; done)), H', ⟨by have := HJ2.out; have := HJ18.out; have := HK3.out; first | omega | exact Nat.le_refl _⟩, ⟨by (with_reducible repeat (first | refine blk_drewN ?_ _ | refine blk_drew ?_ | refine blk_alloc ?_ _)); exact BK421.out⟩, ⟨by repeat (first | (with_reducible first | exact HB.out | apply below_alloc | apply pw_below_drewN | apply below_drew1 | refine below_set ?_ GE421.out) | exact HB.out)⟩⟩
                          · rw [if_neg c53] at H
                            have c53b0 : decide (a1_1 ≤ t425) = false := decide_eq_false c53
                            clear c53
                            have H' := Aside0.mk H
                            clear H
                            have hcz55_0 : wr.cell? ⟨gb421, 0, none⟩ = some (.int .i64 a1_0) := (blk_cell BK421.out 0).trans rfl
                            have hcz55_1 : wr.cell? ⟨gb421, 1, none⟩ = some (.int .i64 a1_1) := (blk_cell BK421.out 1).trans rfl
                            have hcz55_2 : wr.cell? ⟨gb421, 2, none⟩ = some (.int .i64 a1_2) := (blk_cell BK421.out 2).trans rfl
                            have hfz55_0 := blk_frozen BK421.out 0
                            have hfz55_1 := blk_frozen BK421.out 1
                            have hfz55_2 := blk_frozen BK421.out 2
                            go_wp2
                            repeat (go_quiet (fail); try go_wp2)
                            go_meet
                            case rel => exact ⟨_, (decide ((IntKind.u64.wrap ((IntKind.u64.wrap (a1_1)) - (IntKind.u64.wrap (t425)))) < (IntKind.u64.wrap (a1_2)))), (by first | rfl | (simp; done) | (simp [*]; done)), H', ⟨by have := HJ2.out; have := HJ18.out; have := HK3.out; first | omega | exact Nat.le_refl _⟩, ⟨by (with_reducible repeat (first | refine blk_drewN ?_ _ | refine blk_drew ?_ | refine blk_alloc ?_ _)); exact BK421.out⟩, ⟨by repeat (first | (with_reducible first | exact HB.out | apply below_alloc | apply pw_below_drewN | apply below_drew1 | refine below_set ?_ GE421.out) | exact HB.out)⟩⟩
                      case rest =>
                        clear HC49
                        try clear c1
                        try clear c2
                        try clear p2
                        try clear c3
                        try clear c4
                        try clear p4
                        try clear q4
                        try clear hx4
                        try clear c5
                        try clear c6
                        try clear p6
                        try clear c8
                        try clear c9
                        try clear c9b0
                        try clear c11
                        try clear c11b0
                        try clear c14
                        try clear c24
                        try clear c24b0
                        try clear c24b1
                        try clear c25
                        try clear c25b0
                        try clear c25b1
                        try clear c26
                        try clear c27
                        try clear c27b0
                        try clear c28
                        try clear c28b0
                        try clear c29
                        try clear c29b0
                        try clear c32
                        try clear c32b0
                        try clear c33
                        try clear c33b0
                        try clear c33b1
                        try clear c34
                        try clear c34b0
                        try clear c43
                        try clear c43b0
                        try clear c43b1
                        try clear p43
                        try clear q43
                        try clear hx43
                        try clear c44
                        try clear c44b0
                        try clear c44b1
                        try clear c51
                        try clear c51b0
                        try clear c53
                        try clear c53b0
                        try clear hcz10_0
                        try clear hcz10_1
                        try clear hcz10_2
                        try clear hcz12_0
                        try clear hcz12_1
                        try clear hcz12_2
                        try clear hcz13_0
                        try clear hcz13_1
                        try clear hcz13_2
                        try clear hcz20_0
                        try clear hcz20_1
                        try clear hcz20_2
                        try clear hcz22_0
                        try clear hcz22_1
                        try clear hcz22_2
                        try clear hcz31_0
                        try clear hcz31_1
                        try clear hcz31_2
                        try clear hcz36_0
                        try clear hcz36_1
                        try clear hcz36_2
                        try clear hcz38_0
                        try clear hcz38_1
                        try clear hcz38_2
                        try clear hcz40_0
                        try clear hcz40_1
                        try clear hcz40_2
                        try clear hcz42_0
                        try clear hcz42_1
                        try clear hcz42_2
                        try clear hcz52_0
                        try clear hcz52_1
                        try clear hcz52_2
                        try clear hcz54_0
                        try clear hcz54_1
                        try clear hcz54_2
                        try clear hcz55_0
                        try clear hcz55_1
                        try clear hcz55_2
                        try clear hfz10_0
                        try clear hfz10_1
                        try clear hfz10_2
                        try clear hfz12_0
                        try clear hfz12_1
                        try clear hfz12_2
                        try clear hfz13_0
                        try clear hfz13_1
                        try clear hfz13_2
                        try clear hfz20_0
                        try clear hfz20_1
                        try clear hfz20_2
                        try clear hfz22_0
                        try clear hfz22_1
                        try clear hfz22_2
                        try clear hfz31_0
                        try clear hfz31_1
                        try clear hfz31_2
                        try clear hfz36_0
                        try clear hfz36_1
                        try clear hfz36_2
                        try clear hfz38_0
                        try clear hfz38_1
                        try clear hfz38_2
                        try clear hfz40_0
                        try clear hfz40_1
                        try clear hfz40_2
                        try clear hfz42_0
                        try clear hfz42_1
                        try clear hfz42_2
                        try clear hfz52_0
                        try clear hfz52_1
                        try clear hfz52_2
                        try clear hfz54_0
                        try clear hfz54_1
                        try clear hfz54_2
                        try clear hfz55_0
                        try clear hfz55_1
                        try clear hfz55_2
                        try clear hx431_0
                        try clear hx431_1
                        try clear hx432_0
                        try clear hx432_1
                        try clear hx433_0
                        try clear hx433_1
                        try clear hx434_0
                        try clear hx434_1
                        try clear hx435_0
                        try clear hx435_1
                        try clear p2
                        try clear p431
                        try clear p432
                        try clear p433
                        try clear p434
                        try clear p435
                        try clear q431
                        try clear q432
                        try clear q433
                        try clear q434
                        try clear q435
                        obtain ⟨kq, x146_48, rfl, HA, HJ48, BK421, HB⟩ := hcut
                        cases kq with
                        | zero => exact absurd HA.out (by simp [estoverslaw02_IntervalFirst.j3])
                        | succ kj48 =>
                          have H := HA.out
                          clear HA
                          simp only [estoverslaw02_IntervalFirst.j3] at H
                          by_cases c56 : x146_48 = true
                          · subst c56
                            have H1 : (some false) = some r := by rw [if_pos rfl] at H; exact H
                            clear H
                            have H := H1
                            clear H1
                            obtain rfl := Option.some.inj H
                            go_wp2
                            repeat (go_quiet (fail); try go_wp2)
                            go_ret
                            exact ⟨by first | rfl | (simp [errW_none, errW_some] <;> rfl) | (simp [*, errW_none, errW_some] <;> rfl), by repeat (first | (with_reducible first | exact HB.out | apply below_alloc | apply pw_below_drewN | apply below_drew1 | refine below_set ?_ GE421.out) | exact HB.out)⟩
                          · replace c56 := Bool.eq_false_iff.mpr c56
                            subst c56
                            have H1 : (estoverslaw02_IntervalFirst.l1 kj48 l0 t425 0 a1_0 a1_1 a1_2) = some r := by rw [if_neg (show ¬ (false = true) by decide)] at H; exact H
                            clear H
                            have H := H1
                            clear H1
                            have H' := Aside0.mk H
                            clear H
                            go_wp2
                            repeat (go_quiet (fail); try go_wp2)
                            go_loopg [11] kj48 (fun kq v11 w' => ∃ (x11_5 : Int), v11 = .int .i64 x11_5 ∧ Aside0 (estoverslaw02_IntervalFirst.l1 kq l0 t425 x11_5 a1_0 a1_1 a1_2 = some r) ∧ Aside0 (kq ≤ kj48) ∧ Aside0 (w'.heap[gb421]? = some (.cells #[.int .i64 a1_0, .int .i64 a1_1, .int .i64 a1_2] 33 (0, 0))) ∧ Aside0 (Below w.heap.size w w'))
                            case atStart => exact ⟨(0), (by first | rfl | (simp; done) | (simp [*]; done)), H', ⟨Nat.le_refl _⟩, ⟨by (with_reducible repeat (first | refine blk_drewN ?_ _ | refine blk_drew ?_ | refine blk_alloc ?_ _)); exact BK421.out⟩, ⟨by repeat (first | (with_reducible first | exact HB.out | apply below_alloc | apply pw_below_drewN | apply below_drew1 | refine below_set ?_ GE421.out) | exact HB.out)⟩⟩
                            case round =>
                              clear H'
                              try clear c1
                              try clear c2
                              try clear p2
                              try clear c3
                              try clear c4
                              try clear p4
                              try clear q4
                              try clear hx4
                              try clear c5
                              try clear c6
                              try clear p6
                              try clear c8
                              try clear c9
                              try clear c9b0
                              try clear c11
                              try clear c11b0
                              try clear c14
                              try clear c24
                              try clear c24b0
                              try clear c24b1
                              try clear c25
                              try clear c25b0
                              try clear c25b1
                              try clear c26
                              try clear c27
                              try clear c27b0
                              try clear c28
                              try clear c28b0
                              try clear c29
                              try clear c29b0
                              try clear c32
                              try clear c32b0
                              try clear c33
                              try clear c33b0
                              try clear c33b1
                              try clear c34
                              try clear c34b0
                              try clear c43
                              try clear c43b0
                              try clear c43b1
                              try clear p43
                              try clear q43
                              try clear hx43
                              try clear c44
                              try clear c44b0
                              try clear c44b1
                              try clear c51
                              try clear c51b0
                              try clear c53
                              try clear c53b0
                              try clear c56
                              try clear hcz10_0
                              try clear hcz10_1
                              try clear hcz10_2
                              try clear hcz12_0
                              try clear hcz12_1
                              try clear hcz12_2
                              try clear hcz13_0
                              try clear hcz13_1
                              try clear hcz13_2
                              try clear hcz20_0
                              try clear hcz20_1
                              try clear hcz20_2
                              try clear hcz22_0
                              try clear hcz22_1
                              try clear hcz22_2
                              try clear hcz31_0
                              try clear hcz31_1
                              try clear hcz31_2
                              try clear hcz36_0
                              try clear hcz36_1
                              try clear hcz36_2
                              try clear hcz38_0
                              try clear hcz38_1
                              try clear hcz38_2
                              try clear hcz40_0
                              try clear hcz40_1
                              try clear hcz40_2
                              try clear hcz42_0
                              try clear hcz42_1
                              try clear hcz42_2
                              try clear hcz52_0
                              try clear hcz52_1
                              try clear hcz52_2
                              try clear hcz54_0
                              try clear hcz54_1
                              try clear hcz54_2
                              try clear hcz55_0
                              try clear hcz55_1
                              try clear hcz55_2
                              try clear hfz10_0
                              try clear hfz10_1
                              try clear hfz10_2
                              try clear hfz12_0
                              try clear hfz12_1
                              try clear hfz12_2
                              try clear hfz13_0
                              try clear hfz13_1
                              try clear hfz13_2
                              try clear hfz20_0
                              try clear hfz20_1
                              try clear hfz20_2
                              try clear hfz22_0
                              try clear hfz22_1
                              try clear hfz22_2
                              try clear hfz31_0
                              try clear hfz31_1
                              try clear hfz31_2
                              try clear hfz36_0
                              try clear hfz36_1
                              try clear hfz36_2
                              try clear hfz38_0
                              try clear hfz38_1
                              try clear hfz38_2
                              try clear hfz40_0
                              try clear hfz40_1
                              try clear hfz40_2
                              try clear hfz42_0
                              try clear hfz42_1
                              try clear hfz42_2
                              try clear hfz52_0
                              try clear hfz52_1
                              try clear hfz52_2
                              try clear hfz54_0
                              try clear hfz54_1
                              try clear hfz54_2
                              try clear hfz55_0
                              try clear hfz55_1
                              try clear hfz55_2
                              try clear hx431_0
                              try clear hx431_1
                              try clear hx432_0
                              try clear hx432_1
                              try clear hx433_0
                              try clear hx433_1
                              try clear hx434_0
                              try clear hx434_1
                              try clear hx435_0
                              try clear hx435_1
                              try clear p2
                              try clear p4
                              try clear p43
                              try clear p431
                              try clear p432
                              try clear p433
                              try clear p434
                              try clear p435
                              try clear p6
                              try clear q4
                              try clear q43
                              try clear q431
                              try clear q432
                              try clear q433
                              try clear q434
                              try clear q435
                              obtain ⟨x11_5, rfl, HA, HK5, BK421, HB⟩ := hrel
                              cases gk with
                              | zero => exact absurd HA.out (by simp [estoverslaw02_IntervalFirst.l1])
                              | succ k5 =>
                                have H := HA.out
                                clear HA
                                simp only [estoverslaw02_IntervalFirst.l1] at H
                                by_cases c57 : x11_5 < a1_2
                                · rw [if_pos c57] at H
                                  have c57b0 : decide (x11_5 < a1_2) = true := decide_eq_true c57
                                  clear c57
                                  replace H := Option.bind_eq_some_iff.mp H
                                  obtain ⟨t437, A580, H⟩ := H
                                  replace H : (if t437 = true then (some false) else (estoverslaw02_IntervalFirst.l1 k5 l0 t425 (wrap64 (x11_5 + 1)) a1_0 a1_1 a1_2)) = some r := H
                                  have A58 := Aside0.mk A580
                                  clear A580
                                  by_cases c59 : t437 = true
                                  · subst c59
                                    have H1 : (some false) = some r := by rw [if_pos rfl] at H; exact H
                                    clear H
                                    have H := H1
                                    clear H1
                                    obtain rfl := Option.some.inj H
                                    have hcz60_0 : wr.cell? ⟨gb421, 0, none⟩ = some (.int .i64 a1_0) := (blk_cell BK421.out 0).trans rfl
                                    have hcz60_1 : wr.cell? ⟨gb421, 1, none⟩ = some (.int .i64 a1_1) := (blk_cell BK421.out 1).trans rfl
                                    have hcz60_2 : wr.cell? ⟨gb421, 2, none⟩ = some (.int .i64 a1_2) := (blk_cell BK421.out 2).trans rfl
                                    have hfz60_0 := blk_frozen BK421.out 0
                                    have hfz60_1 := blk_frozen BK421.out 1
                                    have hfz60_2 := blk_frozen BK421.out 2
                                    go_wp2_with (first | (go_at_call 27; (with_reducible refine (estoverslaw02_in.calls k5 _ _ l0 (wrap64 (t425 + x11_5)) true _ ?side1 ?side2 A58.out).mono ?_); (case side1 => repeat (first | exact (Kd.C_below HR0.out HB.out) | (with_reducible refine Kd.C_alloc ?_ _) | (with_reducible refine Kd.C_drewN ?_ _) | (with_reducible refine Kd.C_drew ?_))); (case side2 => exact HC0.out); rintro e w' ⟨rfl, ⟨nd, rfl⟩⟩; (try first | exact ⟨rfl, _, World.drewN_drewN _ _ _⟩ | exact ⟨rfl, _, Eq.trans (World.drewN_drewN _ _ _) (congrArg (World.drewN _) (Nat.add_assoc _ _ _))⟩)))
                                    repeat (go_quiet (first | (go_at_call 27; (with_reducible refine (estoverslaw02_in.calls k5 _ _ l0 (wrap64 (t425 + x11_5)) true _ ?side1 ?side2 A58.out).mono ?_); (case side1 => repeat (first | exact (Kd.C_below HR0.out HB.out) | (with_reducible refine Kd.C_alloc ?_ _) | (with_reducible refine Kd.C_drewN ?_ _) | (with_reducible refine Kd.C_drew ?_))); (case side2 => exact HC0.out); rintro e w' ⟨rfl, ⟨nd, rfl⟩⟩; (try first | exact ⟨rfl, _, World.drewN_drewN _ _ _⟩ | exact ⟨rfl, _, Eq.trans (World.drewN_drewN _ _ _) (congrArg (World.drewN _) (Nat.add_assoc _ _ _))⟩))); try go_wp2_with (first | (go_at_call 27; (with_reducible refine (estoverslaw02_in.calls k5 _ _ l0 (wrap64 (t425 + x11_5)) true _ ?side1 ?side2 A58.out).mono ?_); (case side1 => repeat (first | exact (Kd.C_below HR0.out HB.out) | (with_reducible refine Kd.C_alloc ?_ _) | (with_reducible refine Kd.C_drewN ?_ _) | (with_reducible refine Kd.C_drew ?_))); (case side2 => exact HC0.out); rintro e w' ⟨rfl, ⟨nd, rfl⟩⟩; (try first | exact ⟨rfl, _, World.drewN_drewN _ _ _⟩ | exact ⟨rfl, _, Eq.trans (World.drewN_drewN _ _ _) (congrArg (World.drewN _) (Nat.add_assoc _ _ _))⟩))))
                                    go_ret
                                    exact ⟨by first | rfl | (simp [errW_none, errW_some] <;> rfl) | (simp [*, errW_none, errW_some] <;> rfl), by repeat (first | (with_reducible first | exact HB.out | apply below_alloc | apply pw_below_drewN | apply below_drew1 | refine below_set ?_ GE421.out) | exact HB.out)⟩
                                  · replace c59 := Bool.eq_false_iff.mpr c59
                                    subst c59
                                    have H1 : (estoverslaw02_IntervalFirst.l1 k5 l0 t425 (wrap64 (x11_5 + 1)) a1_0 a1_1 a1_2) = some r := by rw [if_neg (show ¬ (false = true) by decide)] at H; exact H
                                    clear H
                                    have H := H1
                                    clear H1
                                    have H' := Aside0.mk H
                                    clear H
                                    have hcz61_0 : wr.cell? ⟨gb421, 0, none⟩ = some (.int .i64 a1_0) := (blk_cell BK421.out 0).trans rfl
                                    have hcz61_1 : wr.cell? ⟨gb421, 1, none⟩ = some (.int .i64 a1_1) := (blk_cell BK421.out 1).trans rfl
                                    have hcz61_2 : wr.cell? ⟨gb421, 2, none⟩ = some (.int .i64 a1_2) := (blk_cell BK421.out 2).trans rfl
                                    have hfz61_0 := blk_frozen BK421.out 0
                                    have hfz61_1 := blk_frozen BK421.out 1
                                    have hfz61_2 := blk_frozen BK421.out 2
                                    go_wp2_with (first | (go_at_call 27; (with_reducible refine (estoverslaw02_in.calls k5 _ _ l0 (wrap64 (t425 + x11_5)) false _ ?side1 ?side2 A58.out).mono ?_); (case side1 => repeat (first | exact (Kd.C_below HR0.out HB.out) | (with_reducible refine Kd.C_alloc ?_ _) | (with_reducible refine Kd.C_drewN ?_ _) | (with_reducible refine Kd.C_drew ?_))); (case side2 => exact HC0.out); rintro e w' ⟨rfl, ⟨nd, rfl⟩⟩; (try first | exact ⟨rfl, _, World.drewN_drewN _ _ _⟩ | exact ⟨rfl, _, Eq.trans (World.drewN_drewN _ _ _) (congrArg (World.drewN _) (Nat.add_assoc _ _ _))⟩)))
                                    repeat (go_quiet (first | (go_at_call 27; (with_reducible refine (estoverslaw02_in.calls k5 _ _ l0 (wrap64 (t425 + x11_5)) false _ ?side1 ?side2 A58.out).mono ?_); (case side1 => repeat (first | exact (Kd.C_below HR0.out HB.out) | (with_reducible refine Kd.C_alloc ?_ _) | (with_reducible refine Kd.C_drewN ?_ _) | (with_reducible refine Kd.C_drew ?_))); (case side2 => exact HC0.out); rintro e w' ⟨rfl, ⟨nd, rfl⟩⟩; (try first | exact ⟨rfl, _, World.drewN_drewN _ _ _⟩ | exact ⟨rfl, _, Eq.trans (World.drewN_drewN _ _ _) (congrArg (World.drewN _) (Nat.add_assoc _ _ _))⟩))); try go_wp2_with (first | (go_at_call 27; (with_reducible refine (estoverslaw02_in.calls k5 _ _ l0 (wrap64 (t425 + x11_5)) false _ ?side1 ?side2 A58.out).mono ?_); (case side1 => repeat (first | exact (Kd.C_below HR0.out HB.out) | (with_reducible refine Kd.C_alloc ?_ _) | (with_reducible refine Kd.C_drewN ?_ _) | (with_reducible refine Kd.C_drew ?_))); (case side2 => exact HC0.out); rintro e w' ⟨rfl, ⟨nd, rfl⟩⟩; (try first | exact ⟨rfl, _, World.drewN_drewN _ _ _⟩ | exact ⟨rfl, _, Eq.trans (World.drewN_drewN _ _ _) (congrArg (World.drewN _) (Nat.add_assoc _ _ _))⟩))))
                                    go_roundg k5
                                    case measure => have := HJ2.out; have := HJ18.out; have := HK3.out; have := HJ48.out; have := HK5.out; omega
                                    case rel => exact ⟨(wrap64 (x11_5 + 1)), (by first | rfl | (simp; done) | (simp [*]; done)), H', ⟨by have := HJ2.out; have := HJ18.out; have := HK3.out; have := HJ48.out; have := HK5.out; omega⟩, ⟨by (with_reducible repeat (first | refine blk_drewN ?_ _ | refine blk_drew ?_ | refine blk_alloc ?_ _)); exact BK421.out⟩, ⟨by repeat (first | (with_reducible first | exact HB.out | apply below_alloc | apply pw_below_drewN | apply below_drew1 | refine below_set ?_ GE421.out) | exact HB.out)⟩⟩
                                · rw [if_neg c57] at H
                                  have c57b0 : decide (x11_5 < a1_2) = false := decide_eq_false c57
                                  clear c57
                                  replace H := Option.bind_eq_some_iff.mp H
                                  obtain ⟨t438, A620, H⟩ := H
                                  replace H : (some t438) = some r := H
                                  have A62 := Aside0.mk A620
                                  clear A620
                                  obtain rfl := Option.some.inj H
                                  have hcz63_0 : wr.cell? ⟨gb421, 0, none⟩ = some (.int .i64 a1_0) := (blk_cell BK421.out 0).trans rfl
                                  have hcz63_1 : wr.cell? ⟨gb421, 1, none⟩ = some (.int .i64 a1_1) := (blk_cell BK421.out 1).trans rfl
                                  have hcz63_2 : wr.cell? ⟨gb421, 2, none⟩ = some (.int .i64 a1_2) := (blk_cell BK421.out 2).trans rfl
                                  have hfz63_0 := blk_frozen BK421.out 0
                                  have hfz63_1 := blk_frozen BK421.out 1
                                  have hfz63_2 := blk_frozen BK421.out 2
                                  go_wp2_with (first | (go_at_call 12; (with_reducible refine (estoverslaw02_awake.calls k5  t438 _ A62.out).mono ?_); rintro e w64 ⟨rfl, hb⟩; have n0_ := Aside0.mk (blk_below (g := gb421) (o := .cells #[.int .i64 a1_0, .int .i64 a1_1, .int .i64 a1_2] 33 (0, 0)) (by (with_reducible repeat (first | refine blk_drewN ?_ _ | refine blk_drew ?_ | refine blk_alloc ?_ _)); exact BK421.out) hb); have n1_ := Aside0.mk (below_step (by repeat (first | (with_reducible first | exact HB.out | apply below_alloc | apply pw_below_drewN | apply below_drew1 | refine below_set ?_ GE421.out) | exact HB.out)) hb); clear BK421; clear HB; have BK421 := n0_; have HB := n1_; clear n0_ n1_; (try clear hb); (try clear hb2); (try clear hk); (try clear hi)))
                                  repeat (go_quiet (first | (go_at_call 12; (with_reducible refine (estoverslaw02_awake.calls k5  t438 _ A62.out).mono ?_); rintro e w64 ⟨rfl, hb⟩; have n0_ := Aside0.mk (blk_below (g := gb421) (o := .cells #[.int .i64 a1_0, .int .i64 a1_1, .int .i64 a1_2] 33 (0, 0)) (by (with_reducible repeat (first | refine blk_drewN ?_ _ | refine blk_drew ?_ | refine blk_alloc ?_ _)); exact BK421.out) hb); have n1_ := Aside0.mk (below_step (by repeat (first | (with_reducible first | exact HB.out | apply below_alloc | apply pw_below_drewN | apply below_drew1 | refine below_set ?_ GE421.out) | exact HB.out)) hb); clear BK421; clear HB; have BK421 := n0_; have HB := n1_; clear n0_ n1_; (try clear hb); (try clear hb2); (try clear hk); (try clear hi))); try go_wp2_with (first | (go_at_call 12; (with_reducible refine (estoverslaw02_awake.calls k5  t438 _ A62.out).mono ?_); rintro e w64 ⟨rfl, hb⟩; have n0_ := Aside0.mk (blk_below (g := gb421) (o := .cells #[.int .i64 a1_0, .int .i64 a1_1, .int .i64 a1_2] 33 (0, 0)) (by (with_reducible repeat (first | refine blk_drewN ?_ _ | refine blk_drew ?_ | refine blk_alloc ?_ _)); exact BK421.out) hb); have n1_ := Aside0.mk (below_step (by repeat (first | (with_reducible first | exact HB.out | apply below_alloc | apply pw_below_drewN | apply below_drew1 | refine below_set ?_ GE421.out) | exact HB.out)) hb); clear BK421; clear HB; have BK421 := n0_; have HB := n1_; clear n0_ n1_; (try clear hb); (try clear hb2); (try clear hk); (try clear hi))))
                                  go_ret
                                  exact ⟨by first | rfl | (simp [errW_none, errW_some] <;> rfl) | (simp [*, errW_none, errW_some] <;> rfl), by repeat (first | (with_reducible first | exact HB.out | apply below_alloc | apply pw_below_drewN | apply below_drew1 | refine below_set ?_ GE421.out) | exact HB.out)⟩

end Go.Proofs.Ytkgknibciclmjaa.I

-- Written by a program of this session (own_print.py) that runs the kit's printer. Lean checks it.
import Derived.Test.YtminfgfigpiajaaE0
import Derived.Test.YtminfgfigpiajaaE2
namespace Go.Proofs.Ytminfgfigpiajaa.E
open Go.RowKit Go.Proofs.YtminfgfigpiajaaW.PrintWords Go.Proofs.YtminfgfigpiajaaW.PrintLast Go.Proofs.YtminfgfigpiajaaW.PrintMore
attribute [local go_sem] max2_int min2_int max_two min_two max_three min_three max_four min_four   -- for this text's walks alone
set_option linter.unusedVariables false
set_option linter.unusedSimpArgs false

/-! ### errseq_Check: function 17 -/
def errseq_Check.j0 : Nat → Int → Bool → Int → Bool → Int → Bool → Option (Int × Bool × Int × Int)
  | 0, _, _, _, _, _, _ => none
  | k + 1, x1, x18, x113000, x113001, x114000, x114001 => if x18 = true then (some (x114000, x114001, 0, 2)) else (if x1 = x113000 then (some (x113000, x113001, x1, 0)) else (some (x113000, true, x113000, 15)))
def errseq_Check.f (k : Nat) (a0_0 : Int) (a0_1 : Bool) (a1 : Int) : Option (Int × Bool × Int × Int) := (errseq_Valid.f a0_0 a0_1).bind fun t114 => (if t114 = true then (if a1 < 0 then (errseq_Check.j0 k a1 true a0_0 a0_1 0 false) else (errseq_Check.j0 k a1 (decide (a1 > a0_0)) a0_0 a0_1 0 false)) else (some (0, false, 0, 1)))
theorem errseq_Check.mono_l : ∀ k, (∀ y0 y1 y2 y3 y4 y5, LeO (errseq_Check.j0 k y0 y1 y2 y3 y4 y5) (errseq_Check.j0 (k + 1) y0 y1 y2 y3 y4 y5))
  | 0 => fun _ _ _ _ _ _ r h => by simp [errseq_Check.j0] at h
  | k + 1 => by
    have ih0 := errseq_Check.mono_l k
    · intro y0 y1 y2 y3 y4 y5
      unfold errseq_Check.j0
      repeat' first
      | (with_reducible exact ih0 _ _ _ _ _ _)
      | (with_reducible exact LeO.refl _)
      | (with_reducible exact LeO.none _)
      | (with_reducible refine LeO.ite ?_ ?_)
      | (with_reducible refine LeO.bind ?_ (fun _ => ?_))
      | exact ih0 _ _ _ _ _ _
      | exact LeO.none _
      | refine LeO.ite ?_ ?_
      | refine LeO.bind ?_ (fun _ => ?_)
theorem errseq_Check.mono : ∀ a0 a1 a2 k, LeO (errseq_Check.f k a0 a1 a2) (errseq_Check.f (k + 1) a0 a1 a2) := by
  intro a0 a1 a2 k
  have ih0 := errseq_Check.mono_l k
  unfold errseq_Check.f
  repeat' first
      | (with_reducible exact ih0 _ _ _ _ _ _)
      | (with_reducible exact LeO.refl _)
      | (with_reducible exact LeO.none _)
      | (with_reducible refine LeO.ite ?_ ?_)
      | (with_reducible refine LeO.bind ?_ (fun _ => ?_))
      | exact ih0 _ _ _ _ _ _
      | exact LeO.none _
      | refine LeO.ite ?_ ?_
      | refine LeO.bind ?_ (fun _ => ?_)
set_option maxHeartbeats 8000000 in
set_option maxRecDepth 100000 in
theorem errseq_Check.calls (k : Nat) (a0_0 : Int) (a0_1 : Bool) (a1 : Int) (r1 : Int) (r2 : Bool) (r3 : Int) (r4 : Int) (w : World) (h : errseq_Check.f k a0_0 a0_1 a1 = some (r1, r2, r3, r4)) :
    Calls Try.prog 17 #[.agg #[.int .i64 a0_0, .bool a0_1], .int .i64 a1] w fun e w' => e = .returned (.tuple #[.agg #[.int .i64 r1, .bool r2], .int .i64 r3, .int .i64 r4]) ∧ Below w.heap.size w w' := by
  have hu23 := Try.underlying23
  have HB := Aside0.mk (Below.refl w.heap.size w)
  have H : ((errseq_Valid.f a0_0 a0_1).bind fun t114 => (if t114 = true then (if a1 < 0 then (errseq_Check.j0 k a1 true a0_0 a0_1 0 false) else (errseq_Check.j0 k a1 (decide (a1 > a0_0)) a0_0 a0_1 0 false)) else (some (0, false, 0, 1)))) = some (r1, r2, r3, r4) := h
  clear h
  replace H := Option.bind_eq_some_iff.mp H
  obtain ⟨t114, A30, H⟩ := H
  replace H : (if t114 = true then (if a1 < 0 then (errseq_Check.j0 k a1 true a0_0 a0_1 0 false) else (errseq_Check.j0 k a1 (decide (a1 > a0_0)) a0_0 a0_1 0 false)) else (some (0, false, 0, 1))) = some (r1, r2, r3, r4) := H
  have A3 := Aside0.mk A30
  clear A30
  by_cases c4 : t114 = true
  · subst c4
    have H1 : (if a1 < 0 then (errseq_Check.j0 k a1 true a0_0 a0_1 0 false) else (errseq_Check.j0 k a1 (decide (a1 > a0_0)) a0_0 a0_1 0 false)) = some (r1, r2, r3, r4) := by rw [if_pos rfl] at H; exact H
    clear H
    have H := H1
    clear H1
    have HC5 := Aside0.mk H
    clear H
    go_enter Try.func17, Try.ntmps17
    go_upto_region 3 with (first | ((with_reducible refine gate_dst (N := 2) rfl ?_); refine box_event ?hg (N := 2) ?hd (cs := #[.int .i64 a0_0, .bool a0_1]) (t := 23) ?hr ?_; (case hd => rfl); (case hg => rfl); (case hr => first | (go_simp; done) | (go_simp; rfl)); intro gb112 hg w6 hbox hb; have n0_ := Aside0.mk (below_step (by repeat (first | (with_reducible first | exact HB.out | apply below_alloc | apply pw_below_drewN | apply below_drew1) | exact HB.out)) hb); have n1_ := Aside0.mk (hbox); have n2_ := Aside0.mk ((by rw [hg]; exact (below_size (by repeat (first | (with_reducible first | exact HB.out | apply below_alloc | apply pw_below_drewN | apply below_drew1) | exact HB.out))) : w.heap.size ≤ gb112)); have n3_ := Aside0.mk ((by rw [hg]; exact (below_size (by repeat (first | (with_reducible first | exact HB.out | apply below_alloc | apply pw_below_drewN | apply below_drew1) | exact HB.out))) : w.heap.size ≤ gb112)); clear HB; have HB := n0_; have BK112 := n1_; have GW112 := n2_; have GE112 := n3_; clear n0_ n1_ n2_ n3_; clear hb hbox hg) | ((with_reducible refine gate_dst (N := 4) rfl ?_); refine box_event ?hg (N := 4) ?hd (cs := #[.int .i64 0, .bool false]) (t := 23) ?hr ?_; (case hd => rfl); (case hg => rfl); (case hr => first | (go_simp; done) | (go_simp; rfl)); intro gb113 hg w7 hbox hb; have n0_ := Aside0.mk (blk_below (g := gb112) (o := .cells #[.int .i64 a0_0, .bool a0_1] 23 (0, 0)) (by (with_reducible repeat (first | refine blk_drewN ?_ _ | refine blk_drew ?_ | refine blk_alloc ?_ _)); exact BK112.out) hb); have n1_ := Aside0.mk (below_step (by repeat (first | (with_reducible first | exact HB.out | apply below_alloc | apply pw_below_drewN | apply below_drew1 | refine below_set ?_ GE112.out) | exact HB.out)) hb); have n2_ := Aside0.mk (hbox); have n3_ := Aside0.mk ((by rw [hg]; exact (below_size (by repeat (first | (with_reducible first | exact HB.out | apply below_alloc | apply pw_below_drewN | apply below_drew1 | refine below_set ?_ GE112.out) | exact HB.out))) : w.heap.size ≤ gb113)); have n4_ := Aside0.mk ((by rw [hg]; exact (below_size (by repeat (first | (with_reducible first | exact HB.out | apply below_alloc | apply pw_below_drewN | apply below_drew1 | refine below_set ?_ GE112.out) | exact HB.out))) : w.heap.size ≤ gb113)); have n5_ := Aside0.mk ((by rw [hg]; exact Nat.ne_of_lt (blk_lt (g := gb112) (o := .cells #[.int .i64 a0_0, .bool a0_1] 23 (0, 0)) (by (with_reducible repeat (first | refine blk_drewN ?_ _ | refine blk_drew ?_ | refine blk_alloc ?_ _)); exact BK112.out)) : gb112 ≠ gb113)); have n6_ := Aside0.mk ((by rw [hg]; exact Nat.ne_of_gt (blk_lt (g := gb112) (o := .cells #[.int .i64 a0_0, .bool a0_1] 23 (0, 0)) (by (with_reducible repeat (first | refine blk_drewN ?_ _ | refine blk_drew ?_ | refine blk_alloc ?_ _)); exact BK112.out)) : gb113 ≠ gb112)); clear BK112; clear HB; have BK112 := n0_; have HB := n1_; have BK113 := n2_; have GW113 := n3_; have GE113 := n4_; have NB112_113 := n5_; have NB113_112 := n6_; clear n0_ n1_ n2_ n3_ n4_ n5_ n6_; clear hb hbox hg; have hnb8 := NB112_113.out; have hnc8 := NB113_112.out; have hcz9_0 : w7.cell? ⟨gb112, 0, none⟩ = some (.int .i64 a0_0) := (blk_cell BK112.out 0).trans rfl; have hcz9_1 : w7.cell? ⟨gb112, 1, none⟩ = some (.bool a0_1) := (blk_cell BK112.out 1).trans rfl; have hfz9_0 := blk_frozen BK112.out 0; have hfz9_1 := blk_frozen BK112.out 1) | ((with_reducible refine gate_callee (f := 9) rfl ?_); refine goesL_ (some 8) rfl rfl Try.func9 (by kernel_rfl) rfl #[.agg #[.int .i64 a0_0, .bool a0_1]] rfl (by (try simp only [List.map_toArray, List.map_cons, List.map_nil]); first | done | rfl | (simp only [List.length_drop, List.length_take]; rfl)) ?_; (with_reducible refine (errseq_Valid.calls a0_0 a0_1 true _ A3.out).mono ?_); rintro e w10 ⟨rfl, hb⟩; refine ⟨_, rfl, ?_⟩; have n0_ := Aside0.mk (blk_below (g := gb112) (o := .cells #[.int .i64 a0_0, .bool a0_1] 23 (0, 0)) (by (with_reducible repeat (first | refine blk_drewN ?_ _ | refine blk_drew ?_ | refine blk_alloc ?_ _)); exact BK112.out) hb); have n1_ := Aside0.mk (blk_below (g := gb113) (o := .cells #[.int .i64 0, .bool false] 23 (0, 0)) (by (with_reducible repeat (first | refine blk_drewN ?_ _ | refine blk_drew ?_ | refine blk_alloc ?_ _)); exact BK113.out) hb); have n2_ := Aside0.mk (below_step (by repeat (first | (with_reducible first | exact HB.out | apply below_alloc | apply pw_below_drewN | apply below_drew1 | refine below_set ?_ GE112.out | refine below_set ?_ GE113.out) | exact HB.out)) hb); clear BK112; clear BK113; clear HB; have BK112 := n0_; have BK113 := n1_; have HB := n2_; clear n0_ n1_ n2_; (try clear hb); (try clear hb2); (try clear hk); (try clear hi)))
    (try simp only [Act.put, List.setIfInBounds_toArray, List.set_cons_zero, List.set_cons_succ])
    go_cut [18] (fun v18 wc => ∃ (kq : Nat) (x18_4 : Bool), v18 = .bool x18_4 ∧ Aside0 (errseq_Check.j0 kq a1 x18_4 a0_0 a0_1 0 false = some (r1, r2, r3, r4)) ∧ Aside0 (kq ≤ k) ∧ Aside0 (wc.heap[gb112]? = some (.cells #[.int .i64 a0_0, .bool a0_1] 23 (0, 0))) ∧ Aside0 (wc.heap[gb113]? = some (.cells #[.int .i64 0, .bool false] 23 (0, 0))) ∧ Aside0 (Below w.heap.size w wc))
    case first =>
      have H := HC5.out
      clear HC5
      by_cases c11 : a1 < 0
      · rw [if_pos c11] at H
        have c11b0 : decide (a1 < 0) = true := decide_eq_true c11
        clear c11
        (first | rw [c11b0] | (simp only [i64_w, i32_w]; rw [c11b0]) | skip)
        have H' := Aside0.mk H
        clear H
        go_wp2
        go_meet
        case rel => exact ⟨_, (true), (by first | rfl | (simp; done) | (simp [*]; done)), H', ⟨by first | omega | exact Nat.le_refl _⟩, ⟨by (with_reducible repeat (first | refine blk_drewN ?_ _ | refine blk_drew ?_ | refine blk_alloc ?_ _)); exact BK112.out⟩, ⟨by (with_reducible repeat (first | refine blk_drewN ?_ _ | refine blk_drew ?_ | refine blk_alloc ?_ _)); exact BK113.out⟩, ⟨by repeat (first | (with_reducible first | exact HB.out | apply below_alloc | apply pw_below_drewN | apply below_drew1 | refine below_set ?_ GE112.out | refine below_set ?_ GE113.out) | exact HB.out)⟩⟩
      · rw [if_neg c11] at H
        have c11b0 : decide (a1 < 0) = false := decide_eq_false c11
        clear c11
        (first | rw [c11b0] | (simp only [i64_w, i32_w]; rw [c11b0]) | skip)
        have H' := Aside0.mk H
        clear H
        have hnb12 := NB112_113.out
        have hnc12 := NB113_112.out
        have hcz13_0 : w10.cell? ⟨gb112, 0, none⟩ = some (.int .i64 a0_0) := (blk_cell BK112.out 0).trans rfl
        have hcz13_1 : w10.cell? ⟨gb112, 1, none⟩ = some (.bool a0_1) := (blk_cell BK112.out 1).trans rfl
        have hfz13_0 := blk_frozen BK112.out 0
        have hfz13_1 := blk_frozen BK112.out 1
        go_wp2
        go_meet
        case rel => exact ⟨_, (decide (a1 > a0_0)), (by first | rfl | (simp; done) | (simp [*]; done)), H', ⟨by first | omega | exact Nat.le_refl _⟩, ⟨by (with_reducible repeat (first | refine blk_drewN ?_ _ | refine blk_drew ?_ | refine blk_alloc ?_ _)); exact BK112.out⟩, ⟨by (with_reducible repeat (first | refine blk_drewN ?_ _ | refine blk_drew ?_ | refine blk_alloc ?_ _)); exact BK113.out⟩, ⟨by repeat (first | (with_reducible first | exact HB.out | apply below_alloc | apply pw_below_drewN | apply below_drew1 | refine below_set ?_ GE112.out | refine below_set ?_ GE113.out) | exact HB.out)⟩⟩
    case rest =>
      clear HC5
      try clear c1
      try clear p2
      try clear c4
      try clear c8
      try clear c9
      try clear c11
      try clear c11b0
      try clear c12
      try clear hcz13_0
      try clear hcz13_1
      try clear hcz9_0
      try clear hcz9_1
      try clear hfz13_0
      try clear hfz13_1
      try clear hfz9_0
      try clear hfz9_1
      obtain ⟨kq, x18_4, rfl, HA, HJ4, BK112, BK113, HB⟩ := hcut
      cases kq with
      | zero => exact absurd HA.out (by simp [errseq_Check.j0])
      | succ kj4 =>
        have H := HA.out
        clear HA
        simp only [errseq_Check.j0] at H
        by_cases c14 : x18_4 = true
        · subst c14
          have H1 : (some (0, false, 0, 2)) = some (r1, r2, r3, r4) := by rw [if_pos rfl] at H; exact H
          clear H
          have H := H1
          clear H1
          simp only [Option.some.injEq, Prod.mk.injEq] at H
          obtain ⟨rfl, rfl, rfl, rfl⟩ := H
          have hnb15 := NB113_112.out
          have hnc15 := NB112_113.out
          have hcz16_0 : wc.cell? ⟨gb113, 0, none⟩ = some (.int .i64 0) := (blk_cell BK113.out 0).trans rfl
          have hcz16_1 : wc.cell? ⟨gb113, 1, none⟩ = some (.bool false) := (blk_cell BK113.out 1).trans rfl
          have hfz16_0 := blk_frozen BK113.out 0
          have hfz16_1 := blk_frozen BK113.out 1
          go_wp2
          refine bodyPost_ret (results_ctt rfl _ _ gb113 23 #[.int .i64 0, .bool false] (0, 0) _ rfl (by (with_reducible repeat (first | refine blk_drewN ?_ _ | refine blk_drew ?_ | refine blk_alloc ?_ _)); refine blk_put (cs := #[.int .i64 0, .bool false]) ?_ 1 _ rfl; (with_reducible repeat (first | refine blk_drewN ?_ _ | refine blk_drew ?_ | refine blk_alloc ?_ _)); refine blk_put (cs := #[.int .i64 0, .bool false]) ?_ 0 _ rfl; (with_reducible repeat (first | refine blk_drewN ?_ _ | refine blk_drew ?_ | refine blk_alloc ?_ _)); exact BK113.out) Try.underlying23 rfl (by kernel_rfl)) rfl ?_
          exact ⟨by first | rfl | (simp [errW_none, errW_some] <;> rfl) | (simp [*, errW_none, errW_some] <;> rfl), by repeat (first | (with_reducible first | exact HB.out | apply below_alloc | apply pw_below_drewN | apply below_drew1 | refine below_set ?_ GE112.out | refine below_set ?_ GE113.out) | exact HB.out)⟩
        · replace c14 := Bool.eq_false_iff.mpr c14
          subst c14
          have H1 : (if a1 = a0_0 then (some (a0_0, a0_1, a1, 0)) else (some (a0_0, true, a0_0, 15))) = some (r1, r2, r3, r4) := by rw [if_neg (show ¬ (false = true) by decide)] at H; exact H
          clear H
          have H := H1
          clear H1
          by_cases c17 : a1 = a0_0
          · rw [if_pos c17] at H
            have c17b0 : (a1 == a0_0) = true := beq_iff_eq.mpr c17
            have c17b1 : (a1 != a0_0) = false := bne_eq_false_iff_eq.mpr c17
            clear c17
            simp only [Option.some.injEq, Prod.mk.injEq] at H
            obtain ⟨rfl, rfl, rfl, rfl⟩ := H
            have hnb18 := NB112_113.out
            have hnc18 := NB113_112.out
            have hcz19_0 : wc.cell? ⟨gb112, 0, none⟩ = some (.int .i64 a0_0) := (blk_cell BK112.out 0).trans rfl
            have hcz19_1 : wc.cell? ⟨gb112, 1, none⟩ = some (.bool a0_1) := (blk_cell BK112.out 1).trans rfl
            have hfz19_0 := blk_frozen BK112.out 0
            have hfz19_1 := blk_frozen BK112.out 1
            have hcz20_0 : wc.cell? ⟨gb113, 0, none⟩ = some (.int .i64 0) := (blk_cell BK113.out 0).trans rfl
            have hcz20_1 : wc.cell? ⟨gb113, 1, none⟩ = some (.bool false) := (blk_cell BK113.out 1).trans rfl
            have hfz20_0 := blk_frozen BK113.out 0
            have hfz20_1 := blk_frozen BK113.out 1
            go_wp2
            refine bodyPost_ret (results_ctt rfl _ _ gb113 23 #[.int .i64 a0_0, .bool a0_1] (0, 0) _ rfl (by (with_reducible repeat (first | refine blk_drewN ?_ _ | refine blk_drew ?_ | refine blk_alloc ?_ _)); refine blk_put (cs := #[.int .i64 a0_0, .bool false]) ?_ 1 _ rfl; (with_reducible repeat (first | refine blk_drewN ?_ _ | refine blk_drew ?_ | refine blk_alloc ?_ _)); refine blk_put (cs := #[.int .i64 0, .bool false]) ?_ 0 _ rfl; (with_reducible repeat (first | refine blk_drewN ?_ _ | refine blk_drew ?_ | refine blk_alloc ?_ _)); exact BK113.out) Try.underlying23 rfl (by kernel_rfl)) rfl ?_
            exact ⟨by first | rfl | (simp [errW_none, errW_some] <;> rfl) | (simp [*, errW_none, errW_some] <;> rfl), by repeat (first | (with_reducible first | exact HB.out | apply below_alloc | apply pw_below_drewN | apply below_drew1 | refine below_set ?_ GE112.out | refine below_set ?_ GE113.out) | exact HB.out)⟩
          · rw [if_neg c17] at H
            have c17b0 : (a1 == a0_0) = false := beq_eq_false_iff_ne.mpr c17
            have c17b1 : (a1 != a0_0) = true := bne_iff_ne.mpr c17
            simp only [Option.some.injEq, Prod.mk.injEq] at H
            obtain ⟨rfl, rfl, rfl, rfl⟩ := H
            have hnb21 := NB112_113.out
            have hnc21 := NB113_112.out
            have hcz22_0 : wc.cell? ⟨gb112, 0, none⟩ = some (.int .i64 a0_0) := (blk_cell BK112.out 0).trans rfl
            have hcz22_1 : wc.cell? ⟨gb112, 1, none⟩ = some (.bool a0_1) := (blk_cell BK112.out 1).trans rfl
            have hfz22_0 := blk_frozen BK112.out 0
            have hfz22_1 := blk_frozen BK112.out 1
            have hcz23_0 : wc.cell? ⟨gb113, 0, none⟩ = some (.int .i64 0) := (blk_cell BK113.out 0).trans rfl
            have hcz23_1 : wc.cell? ⟨gb113, 1, none⟩ = some (.bool false) := (blk_cell BK113.out 1).trans rfl
            have hfz23_0 := blk_frozen BK113.out 0
            have hfz23_1 := blk_frozen BK113.out 1
            try go_wp2
            have n0_ : Aside0 ((((wc.setCell ⟨gb113, 0, none⟩ (.int .i64 a0_0)).setCell ⟨gb113, 1, none⟩ (.bool a0_1)).setCell ⟨gb113, 1, none⟩ (.bool true)).heap[gb112]? = some (.cells #[.int .i64 a0_0, .bool a0_1] 23 (0, 0))) := ⟨by (with_reducible repeat (first | refine blk_drewN ?_ _ | refine blk_drew ?_ | refine blk_alloc ?_ _)); refine blk_far ?_ NB112_113.out _; (with_reducible repeat (first | refine blk_drewN ?_ _ | refine blk_drew ?_ | refine blk_alloc ?_ _)); refine blk_far ?_ NB112_113.out _; (with_reducible repeat (first | refine blk_drewN ?_ _ | refine blk_drew ?_ | refine blk_alloc ?_ _)); refine blk_far ?_ NB112_113.out _; (with_reducible repeat (first | refine blk_drewN ?_ _ | refine blk_drew ?_ | refine blk_alloc ?_ _)); exact BK112.out⟩
            have n1_ : Aside0 ((((wc.setCell ⟨gb113, 0, none⟩ (.int .i64 a0_0)).setCell ⟨gb113, 1, none⟩ (.bool a0_1)).setCell ⟨gb113, 1, none⟩ (.bool true)).heap[gb113]? = some (.cells #[.int .i64 a0_0, .bool true] 23 (0, 0))) := ⟨by (with_reducible repeat (first | refine blk_drewN ?_ _ | refine blk_drew ?_ | refine blk_alloc ?_ _)); refine blk_put (cs := #[.int .i64 a0_0, .bool a0_1]) ?_ 1 _ rfl; (with_reducible repeat (first | refine blk_drewN ?_ _ | refine blk_drew ?_ | refine blk_alloc ?_ _)); refine blk_put (cs := #[.int .i64 a0_0, .bool false]) ?_ 1 _ rfl; (with_reducible repeat (first | refine blk_drewN ?_ _ | refine blk_drew ?_ | refine blk_alloc ?_ _)); refine blk_put (cs := #[.int .i64 0, .bool false]) ?_ 0 _ rfl; (with_reducible repeat (first | refine blk_drewN ?_ _ | refine blk_drew ?_ | refine blk_alloc ?_ _)); exact BK113.out⟩
            have n2_ : Aside0 (Below w.heap.size w (((wc.setCell ⟨gb113, 0, none⟩ (.int .i64 a0_0)).setCell ⟨gb113, 1, none⟩ (.bool a0_1)).setCell ⟨gb113, 1, none⟩ (.bool true))) := ⟨by repeat (first | (with_reducible first | exact HB.out | apply below_alloc | apply pw_below_drewN | apply below_drew1 | refine below_set ?_ GE112.out | refine below_set ?_ GE113.out) | exact HB.out)⟩
            (try clear BK112)
            (try clear BK113)
            (try clear HB)
            generalize (((wc.setCell ⟨gb113, 0, none⟩ (.int .i64 a0_0)).setCell ⟨gb113, 1, none⟩ (.bool a0_1)).setCell ⟨gb113, 1, none⟩ (.bool true)) = w24 at n0_ n1_ n2_ ⊢
            have BK112 := n0_
            have BK113 := n1_
            have HB := n2_
            clear n0_ n1_ n2_
            have n0_ := Aside0.mk (blk_drew BK112.out)
            have n1_ := Aside0.mk (blk_drew BK113.out)
            have n2_ := Aside0.mk (below_drew1 HB.out)
            clear BK112
            clear BK113
            clear HB
            have BK112 := n0_
            have BK113 := n1_
            have HB := n2_
            clear n0_ n1_ n2_
            refine start_ (n := 6) (S := fun w' => w'.cell? ⟨gb113, 0, none⟩ = some (.int .i64 a0_0) ∧ w'.cell? ⟨gb113, 1, none⟩ = some (.bool true) ∧ w'.cell? ⟨gb112, 0, none⟩ = some (.int .i64 a0_0) ∧ w'.cell? ⟨gb112, 1, none⟩ = some (.bool a0_1)) (ds := []) #[false, false, false, false, false, false] (by kernel_rfl) rfl rfl ⟨(blk_cell BK113.out 0).trans rfl, (blk_cell BK113.out 1).trans rfl, (blk_cell BK112.out 0).trans rfl, (blk_cell BK112.out 1).trans rfl⟩ (fun hHeld => ?_)
            generalize w24.drew = w25 at BK112 BK113 HB hHeld ⊢
            refine pure_ (i := 1) (N := some 29) (v := ?_) (a' := ?_) #[false, true, false, false, false, false] rfl rfl (by kernel_rfl) (fun _ _ _ h => h) (Or.inl ⟨by rfl, ?_⟩) ?_ ?_
            rotate_left
            · intro w'
              go_simp
              with_reducible rfl
            rotate_left
            · simp only [Act.put, List.setIfInBounds_toArray, List.set_cons_zero, List.set_cons_succ, i64_w, i32_w]
              rfl
            refine take_ (i := 0) (N := some 28) (v := ?_) (a' := ?_) #[true, true, false, false, false, false] rfl rfl (by kernel_rfl) (fun _ _ _ h => h) (Or.inl ⟨by rfl, ?_⟩) hHeld ?_ ?_
            rotate_left
            · rintro w' ⟨s0, s1, s2, s3⟩
              go_simp
              with_reducible rfl
            rotate_left
            · simp only [Act.put, List.setIfInBounds_toArray, List.set_cons_zero, List.set_cons_succ, i64_w, i32_w]
              rfl
            refine take_ (i := 2) (N := some 30) (v := ?_) (a' := ?_) #[true, true, true, false, false, false] rfl rfl (by kernel_rfl) (fun _ _ _ h => h) (Or.inl ⟨by rfl, ?_⟩) hHeld ?_ ?_
            rotate_left
            · rintro w' ⟨s0, s1, s2, s3⟩
              go_simp
              with_reducible rfl
            rotate_left
            · simp only [Act.put, List.setIfInBounds_toArray, List.set_cons_zero, List.set_cons_succ, i64_w, i32_w]
              rfl
            refine one_ (i := 3) (N := none) #[true, true, true, true, false, false] rfl rfl (by kernel_rfl) (by decide) (fun K hK => ?_)
            have hs26 : w25.cell? ⟨gb113, 0, none⟩ = some (.int .i64 a0_0) := (blk_cell BK113.out 0).trans rfl
            have hfs26 := blk_frozen BK113.out 0
            have hns26_0 := NB112_113.out
            have hms26_0 := NB113_112.out
            have hs27 : w25.cell? ⟨gb113, 1, none⟩ = some (.bool true) := (blk_cell BK113.out 1).trans rfl
            have hfs27 := blk_frozen BK113.out 1
            have hns27_0 := NB112_113.out
            have hms27_0 := NB113_112.out
            refine skip_ (w1 := ?_) (by rfl) rfl ?_ ?_
            rotate_left
            · go_simp
              rfl
            refine hK.out _ _ ⟨(by repeat (first | exact hHeld | exact hHeld.1 | exact hHeld.2 | exact hHeld.2.1 | exact hHeld.2.2 | exact hHeld.2.2.1 | exact hHeld.2.2.2 | exact hHeld.2.2.2.1 | exact hHeld.2.2.2.2 | exact hHeld.2.2.2.2.1 | exact hHeld.2.2.2.2.2 | exact hHeld.2.2.2.2.2.1 | exact hHeld.2.2.2.2.2.2 | exact hHeld.2.2.2.2.2.2.1 | exact hHeld.2.2.2.2.2.2.2 | exact hHeld.2.2.2.2.2.2.2.1 | exact hHeld.2.2.2.2.2.2.2.2 | exact hHeld.2.2.2.2.2.2.2.2.1 | exact hHeld.2.2.2.2.2.2.2.2.2 | exact hHeld.2.2.2.2.2.2.2.2.2.1 | exact hHeld.2.2.2.2.2.2.2.2.2.2 | exact hHeld.2.2.2.2.2.2.2.2.2.2.1 | exact hHeld.2.2.2.2.2.2.2.2.2.2.2 | exact hHeld.2.2.2.2.2.2.2.2.2.2.2.1 | refine cell_keep ?_ ?_)), (by repeat (first | exact hHeld | exact hHeld.1 | exact hHeld.2 | exact hHeld.2.1 | exact hHeld.2.2 | exact hHeld.2.2.1 | exact hHeld.2.2.2 | exact hHeld.2.2.2.1 | exact hHeld.2.2.2.2 | exact hHeld.2.2.2.2.1 | exact hHeld.2.2.2.2.2 | exact hHeld.2.2.2.2.2.1 | exact hHeld.2.2.2.2.2.2 | exact hHeld.2.2.2.2.2.2.1 | exact hHeld.2.2.2.2.2.2.2 | exact hHeld.2.2.2.2.2.2.2.1 | exact hHeld.2.2.2.2.2.2.2.2 | exact hHeld.2.2.2.2.2.2.2.2.1 | exact hHeld.2.2.2.2.2.2.2.2.2 | exact hHeld.2.2.2.2.2.2.2.2.2.1 | exact hHeld.2.2.2.2.2.2.2.2.2.2 | exact hHeld.2.2.2.2.2.2.2.2.2.2.1 | exact hHeld.2.2.2.2.2.2.2.2.2.2.2 | exact hHeld.2.2.2.2.2.2.2.2.2.2.2.1 | refine cell_keep ?_ ?_)), ((cell_far (p := ⟨gb113, _, none⟩) NB112_113.out _).trans (((cell_far (p := ⟨gb113, _, none⟩) NB112_113.out _).trans (hHeld.2.2.1)))), ((cell_far (p := ⟨gb113, _, none⟩) NB112_113.out _).trans (((cell_far (p := ⟨gb113, _, none⟩) NB112_113.out _).trans (hHeld.2.2.2))))⟩ (fun hHeld => ?_)
            clear hK K
            refine pure_ (i := 4) (N := some 5) (v := ?_) (a' := ?_) #[true, true, true, true, true, false] rfl rfl (by kernel_rfl) (fun _ _ _ h => h) (Or.inl ⟨by rfl, ?_⟩) ?_ ?_
            rotate_left
            · intro w'
              go_simp
              with_reducible rfl
            rotate_left
            · simp only [Act.put, List.setIfInBounds_toArray, List.set_cons_zero, List.set_cons_succ, i64_w, i32_w]
              rfl
            refine pure_ (i := 5) (N := some 6) (v := ?_) (a' := ?_) #[true, true, true, true, true, true] rfl rfl (by kernel_rfl) (fun _ _ _ h => h) (Or.inl ⟨by rfl, ?_⟩) ?_ ?_
            rotate_left
            · intro w'
              go_simp
              with_reducible rfl
            rotate_left
            · simp only [Act.put, List.setIfInBounds_toArray, List.set_cons_zero, List.set_cons_succ, i64_w, i32_w]
              rfl
            refine done_ (by kernel_rfl) ?_
            try go_wp2
            refine bodyPost_ret (results_ctt rfl _ _ gb113 23 #[.int .i64 a0_0, .bool true] (0, 0) _ rfl (by (with_reducible repeat (first | refine blk_drewN ?_ _ | refine blk_drew ?_ | refine blk_alloc ?_ _)); refine blk_put (cs := #[.int .i64 a0_0, .bool true]) ?_ 1 _ rfl; (with_reducible repeat (first | refine blk_drewN ?_ _ | refine blk_drew ?_ | refine blk_alloc ?_ _)); refine blk_put (cs := #[.int .i64 a0_0, .bool true]) ?_ 0 _ rfl; (with_reducible repeat (first | refine blk_drewN ?_ _ | refine blk_drew ?_ | refine blk_alloc ?_ _)); exact BK113.out) Try.underlying23 rfl (by kernel_rfl)) rfl ?_
            exact ⟨by first | rfl | (simp [errW_none, errW_some] <;> rfl) | (simp [*, errW_none, errW_some] <;> rfl), by repeat (first | (with_reducible first | exact HB.out | apply below_alloc | apply pw_below_drewN | apply below_drew1 | refine below_set ?_ GE112.out | refine below_set ?_ GE113.out) | exact HB.out)⟩
  · replace c4 := Bool.eq_false_iff.mpr c4
    subst c4
    have H1 : (some (0, false, 0, 1)) = some (r1, r2, r3, r4) := by rw [if_neg (show ¬ (false = true) by decide)] at H; exact H
    clear H
    have H := H1
    clear H1
    simp only [Option.some.injEq, Prod.mk.injEq] at H
    obtain ⟨rfl, rfl, rfl, rfl⟩ := H
    go_enter Try.func17, Try.ntmps17
    go_wp2_with (first | ((with_reducible refine gate_dst (N := 2) rfl ?_); refine box_event ?hg (N := 2) ?hd (cs := #[.int .i64 a0_0, .bool a0_1]) (t := 23) ?hr ?_; (case hd => rfl); (case hg => rfl); (case hr => first | (go_simp; done) | (go_simp; rfl)); intro gb112 hg w28 hbox hb; have n0_ := Aside0.mk (below_step (by repeat (first | (with_reducible first | exact HB.out | apply below_alloc | apply pw_below_drewN | apply below_drew1) | exact HB.out)) hb); have n1_ := Aside0.mk (hbox); have n2_ := Aside0.mk ((by rw [hg]; exact (below_size (by repeat (first | (with_reducible first | exact HB.out | apply below_alloc | apply pw_below_drewN | apply below_drew1) | exact HB.out))) : w.heap.size ≤ gb112)); have n3_ := Aside0.mk ((by rw [hg]; exact (below_size (by repeat (first | (with_reducible first | exact HB.out | apply below_alloc | apply pw_below_drewN | apply below_drew1) | exact HB.out))) : w.heap.size ≤ gb112)); clear HB; have HB := n0_; have BK112 := n1_; have GW112 := n2_; have GE112 := n3_; clear n0_ n1_ n2_ n3_; clear hb hbox hg) | ((with_reducible refine gate_dst (N := 4) rfl ?_); refine box_event ?hg (N := 4) ?hd (cs := #[.int .i64 0, .bool false]) (t := 23) ?hr ?_; (case hd => rfl); (case hg => rfl); (case hr => first | (go_simp; done) | (go_simp; rfl)); intro gb113 hg w29 hbox hb; have n0_ := Aside0.mk (blk_below (g := gb112) (o := .cells #[.int .i64 a0_0, .bool a0_1] 23 (0, 0)) (by (with_reducible repeat (first | refine blk_drewN ?_ _ | refine blk_drew ?_ | refine blk_alloc ?_ _)); exact BK112.out) hb); have n1_ := Aside0.mk (below_step (by repeat (first | (with_reducible first | exact HB.out | apply below_alloc | apply pw_below_drewN | apply below_drew1 | refine below_set ?_ GE112.out) | exact HB.out)) hb); have n2_ := Aside0.mk (hbox); have n3_ := Aside0.mk ((by rw [hg]; exact (below_size (by repeat (first | (with_reducible first | exact HB.out | apply below_alloc | apply pw_below_drewN | apply below_drew1 | refine below_set ?_ GE112.out) | exact HB.out))) : w.heap.size ≤ gb113)); have n4_ := Aside0.mk ((by rw [hg]; exact (below_size (by repeat (first | (with_reducible first | exact HB.out | apply below_alloc | apply pw_below_drewN | apply below_drew1 | refine below_set ?_ GE112.out) | exact HB.out))) : w.heap.size ≤ gb113)); have n5_ := Aside0.mk ((by rw [hg]; exact Nat.ne_of_lt (blk_lt (g := gb112) (o := .cells #[.int .i64 a0_0, .bool a0_1] 23 (0, 0)) (by (with_reducible repeat (first | refine blk_drewN ?_ _ | refine blk_drew ?_ | refine blk_alloc ?_ _)); exact BK112.out)) : gb112 ≠ gb113)); have n6_ := Aside0.mk ((by rw [hg]; exact Nat.ne_of_gt (blk_lt (g := gb112) (o := .cells #[.int .i64 a0_0, .bool a0_1] 23 (0, 0)) (by (with_reducible repeat (first | refine blk_drewN ?_ _ | refine blk_drew ?_ | refine blk_alloc ?_ _)); exact BK112.out)) : gb113 ≠ gb112)); clear BK112; clear HB; have BK112 := n0_; have HB := n1_; have BK113 := n2_; have GW113 := n3_; have GE113 := n4_; have NB112_113 := n5_; have NB113_112 := n6_; clear n0_ n1_ n2_ n3_ n4_ n5_ n6_; clear hb hbox hg; have hnb30 := NB112_113.out; have hnc30 := NB113_112.out; have hcz31_0 : w29.cell? ⟨gb112, 0, none⟩ = some (.int .i64 a0_0) := (blk_cell BK112.out 0).trans rfl; have hcz31_1 : w29.cell? ⟨gb112, 1, none⟩ = some (.bool a0_1) := (blk_cell BK112.out 1).trans rfl; have hfz31_0 := blk_frozen BK112.out 0; have hfz31_1 := blk_frozen BK112.out 1) | ((with_reducible refine gate_callee (f := 9) rfl ?_); refine goesL_ (some 8) rfl rfl Try.func9 (by kernel_rfl) rfl #[.agg #[.int .i64 a0_0, .bool a0_1]] rfl (by (try simp only [List.map_toArray, List.map_cons, List.map_nil]); first | done | rfl | (simp only [List.length_drop, List.length_take]; rfl)) ?_; (with_reducible refine (errseq_Valid.calls a0_0 a0_1 false _ A3.out).mono ?_); rintro e w32 ⟨rfl, hb⟩; refine ⟨_, rfl, ?_⟩; have n0_ := Aside0.mk (blk_below (g := gb112) (o := .cells #[.int .i64 a0_0, .bool a0_1] 23 (0, 0)) (by (with_reducible repeat (first | refine blk_drewN ?_ _ | refine blk_drew ?_ | refine blk_alloc ?_ _)); exact BK112.out) hb); have n1_ := Aside0.mk (blk_below (g := gb113) (o := .cells #[.int .i64 0, .bool false] 23 (0, 0)) (by (with_reducible repeat (first | refine blk_drewN ?_ _ | refine blk_drew ?_ | refine blk_alloc ?_ _)); exact BK113.out) hb); have n2_ := Aside0.mk (below_step (by repeat (first | (with_reducible first | exact HB.out | apply below_alloc | apply pw_below_drewN | apply below_drew1 | refine below_set ?_ GE112.out | refine below_set ?_ GE113.out) | exact HB.out)) hb); clear BK112; clear BK113; clear HB; have BK112 := n0_; have BK113 := n1_; have HB := n2_; clear n0_ n1_ n2_; (try clear hb); (try clear hb2); (try clear hk); (try clear hi); have hcz33_0 : w32.cell? ⟨gb113, 0, none⟩ = some (.int .i64 0) := (blk_cell BK113.out 0).trans rfl; have hcz33_1 : w32.cell? ⟨gb113, 1, none⟩ = some (.bool false) := (blk_cell BK113.out 1).trans rfl; have hfz33_0 := blk_frozen BK113.out 0; have hfz33_1 := blk_frozen BK113.out 1))
    refine bodyPost_ret (results_ctt rfl _ _ gb113 23 #[.int .i64 0, .bool false] (0, 0) _ rfl (by (with_reducible repeat (first | refine blk_drewN ?_ _ | refine blk_drew ?_ | refine blk_alloc ?_ _)); refine blk_put (cs := #[.int .i64 0, .bool false]) ?_ 1 _ rfl; (with_reducible repeat (first | refine blk_drewN ?_ _ | refine blk_drew ?_ | refine blk_alloc ?_ _)); refine blk_put (cs := #[.int .i64 0, .bool false]) ?_ 0 _ rfl; (with_reducible repeat (first | refine blk_drewN ?_ _ | refine blk_drew ?_ | refine blk_alloc ?_ _)); exact BK113.out) Try.underlying23 rfl (by kernel_rfl)) rfl ?_
    exact ⟨by first | rfl | (simp [errW_none, errW_some] <;> rfl) | (simp [*, errW_none, errW_some] <;> rfl), by repeat (first | (with_reducible first | exact HB.out | apply below_alloc | apply pw_below_drewN | apply below_drew1 | refine below_set ?_ GE112.out | refine below_set ?_ GE113.out) | exact HB.out)⟩

end Go.Proofs.Ytminfgfigpiajaa.E

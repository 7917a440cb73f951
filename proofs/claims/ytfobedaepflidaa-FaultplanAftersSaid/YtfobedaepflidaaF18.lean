-- Written by a program of this session (own_print.py) that runs the kit's printer. Lean checks it.
import Derived.Test.YtfobedaepflidaaF0
import Derived.Test.YtfobedaepflidaaF16
import Derived.Test.YtfobedaepflidaaF17
namespace Go.Proofs.Ytfobedaepflidaa.F
open Go.RowKit Go.Proofs.YtfobedaepflidaaW.PrintWords Go.Proofs.YtfobedaepflidaaW.PrintLast Go.Proofs.YtfobedaepflidaaW.PrintMore
attribute [local go_sem] max2_int min2_int max_two min_two max_three min_three max_four min_four   -- for this text's walks alone
set_option linter.unusedVariables false
set_option linter.unusedSimpArgs false

attribute [local go_sem ↓ high] ld23a sv23a
attribute [local go_sem high] ld23 sv23
/-! ### estoversref26_write: function 25 -/
mutual
def estoversref26_write.j0 : Nat → Bool → Bool → Bool → Int → Bool → Bool → Bool → Bool → Int → Bool → Bool → Bool → Bool → Bool → Bool → Bool → Bool → Int → Option (Int × Int × Int × Int × Int × Int)
  | 0, _, _, _, _, _, _, _, _, _, _, _, _, _, _, _, _, _, _ => none
  | k + 1, x9, x117000, x117001, x117002, x117003, x117004, x117005, x117006, x117007, x117008, x117009, x117010, x117011, x117012, x117013, x117014, x117015, x117016 => if x9 = true then ((estoversref26_plan.f 8 0 0).bind fun bt118 => (some (bt118.1, bt118.2.1, bt118.2.2.1, bt118.2.2.2.1, bt118.2.2.2.2.1, bt118.2.2.2.2.2))) else (if x117010 = true then (estoversref26_write.j1 k true x117000 x117001 x117002 x117003 x117004 x117005 x117006 x117007 x117008 x117009 x117010 x117011 x117012 x117013 x117014 x117015 x117016) else (estoversref26_write.j1 k (!x117003) x117000 x117001 x117002 x117003 x117004 x117005 x117006 x117007 x117008 x117009 x117010 x117011 x117012 x117013 x117014 x117015 x117016))
def estoversref26_write.j1 : Nat → Bool → Bool → Bool → Int → Bool → Bool → Bool → Bool → Int → Bool → Bool → Bool → Bool → Bool → Bool → Bool → Bool → Int → Option (Int × Int × Int × Int × Int × Int)
  | 0, _, _, _, _, _, _, _, _, _, _, _, _, _, _, _, _, _, _ => none
  | k + 1, x19, x117000, x117001, x117002, x117003, x117004, x117005, x117006, x117007, x117008, x117009, x117010, x117011, x117012, x117013, x117014, x117015, x117016 => if x19 = true then ((estoversref26_plan.f 9 0 1).bind fun bt124 => (some (bt124.1, bt124.2.1, bt124.2.2.1, bt124.2.2.2.1, bt124.2.2.2.2.1, bt124.2.2.2.2.2))) else (if x117014 = true then (estoversref26_write.j2 k false) else (estoversref26_write.j2 k x117015))
def estoversref26_write.j2 : Nat → Bool → Option (Int × Int × Int × Int × Int × Int)
  | 0, _ => none
  | k + 1, x29 => if x29 = true then ((estoversref26_wait.f 5).bind fun bt130 => (some (bt130.1, bt130.2.1, bt130.2.2.1, bt130.2.2.2.1, bt130.2.2.2.2.1, bt130.2.2.2.2.2))) else ((estoversref26_plan.f 7 0 0).bind fun bt136 => (some (bt136.1, bt136.2.1, bt136.2.2.1, bt136.2.2.2.1, bt136.2.2.2.2.1, bt136.2.2.2.2.2)))
end
def estoversref26_write.f (k : Nat) (a0_0 : Bool) (a0_1 : Bool) (a0_2 : Int) (a0_3 : Bool) (a0_4 : Bool) (a0_5 : Bool) (a0_6 : Bool) (a0_7 : Int) (a0_8 : Bool) (a0_9 : Bool) (a0_10 : Bool) (a0_11 : Bool) (a0_12 : Bool) (a0_13 : Bool) (a0_14 : Bool) (a0_15 : Bool) (a0_16 : Int) : Option (Int × Int × Int × Int × Int × Int) := if a0_10 = true then (estoversref26_write.j0 k a0_11 a0_0 a0_1 a0_2 a0_3 a0_4 a0_5 a0_6 a0_7 a0_8 a0_9 a0_10 a0_11 a0_12 a0_13 a0_14 a0_15 a0_16) else (estoversref26_write.j0 k false a0_0 a0_1 a0_2 a0_3 a0_4 a0_5 a0_6 a0_7 a0_8 a0_9 a0_10 a0_11 a0_12 a0_13 a0_14 a0_15 a0_16)
theorem estoversref26_write.mono_l : ∀ k, (∀ y0 y1 y2 y3 y4 y5 y6 y7 y8 y9 y10 y11 y12 y13 y14 y15 y16 y17, LeO (estoversref26_write.j0 k y0 y1 y2 y3 y4 y5 y6 y7 y8 y9 y10 y11 y12 y13 y14 y15 y16 y17) (estoversref26_write.j0 (k + 1) y0 y1 y2 y3 y4 y5 y6 y7 y8 y9 y10 y11 y12 y13 y14 y15 y16 y17)) ∧ (∀ y0 y1 y2 y3 y4 y5 y6 y7 y8 y9 y10 y11 y12 y13 y14 y15 y16 y17, LeO (estoversref26_write.j1 k y0 y1 y2 y3 y4 y5 y6 y7 y8 y9 y10 y11 y12 y13 y14 y15 y16 y17) (estoversref26_write.j1 (k + 1) y0 y1 y2 y3 y4 y5 y6 y7 y8 y9 y10 y11 y12 y13 y14 y15 y16 y17)) ∧ (∀ y0, LeO (estoversref26_write.j2 k y0) (estoversref26_write.j2 (k + 1) y0))
  | 0 => ⟨fun _ _ _ _ _ _ _ _ _ _ _ _ _ _ _ _ _ _ r h => by simp [estoversref26_write.j0] at h, fun _ _ _ _ _ _ _ _ _ _ _ _ _ _ _ _ _ _ r h => by simp [estoversref26_write.j1] at h, fun _ r h => by simp [estoversref26_write.j2] at h⟩
  | k + 1 => by
    obtain ⟨ih0, ih1, ih2⟩ := estoversref26_write.mono_l k
    refine ⟨?_, ?_, ?_⟩
    · intro y0 y1 y2 y3 y4 y5 y6 y7 y8 y9 y10 y11 y12 y13 y14 y15 y16 y17
      unfold estoversref26_write.j0
      repeat' first
      | (with_reducible exact ih0 _ _ _ _ _ _ _ _ _ _ _ _ _ _ _ _ _ _)
      | (with_reducible exact ih1 _ _ _ _ _ _ _ _ _ _ _ _ _ _ _ _ _ _)
      | (with_reducible exact ih2 _)
      | (with_reducible exact LeO.refl _)
      | (with_reducible exact LeO.none _)
      | (with_reducible refine LeO.ite ?_ ?_)
      | (with_reducible refine LeO.bind ?_ (fun _ => ?_))
      | exact ih0 _ _ _ _ _ _ _ _ _ _ _ _ _ _ _ _ _ _
      | exact ih1 _ _ _ _ _ _ _ _ _ _ _ _ _ _ _ _ _ _
      | exact ih2 _
      | exact LeO.none _
      | refine LeO.ite ?_ ?_
      | refine LeO.bind ?_ (fun _ => ?_)
    · intro y0 y1 y2 y3 y4 y5 y6 y7 y8 y9 y10 y11 y12 y13 y14 y15 y16 y17
      unfold estoversref26_write.j1
      repeat' first
      | (with_reducible exact ih0 _ _ _ _ _ _ _ _ _ _ _ _ _ _ _ _ _ _)
      | (with_reducible exact ih1 _ _ _ _ _ _ _ _ _ _ _ _ _ _ _ _ _ _)
      | (with_reducible exact ih2 _)
      | (with_reducible exact LeO.refl _)
      | (with_reducible exact LeO.none _)
      | (with_reducible refine LeO.ite ?_ ?_)
      | (with_reducible refine LeO.bind ?_ (fun _ => ?_))
      | exact ih0 _ _ _ _ _ _ _ _ _ _ _ _ _ _ _ _ _ _
      | exact ih1 _ _ _ _ _ _ _ _ _ _ _ _ _ _ _ _ _ _
      | exact ih2 _
      | exact LeO.none _
      | refine LeO.ite ?_ ?_
      | refine LeO.bind ?_ (fun _ => ?_)
    · intro y0
      unfold estoversref26_write.j2
      repeat' first
      | (with_reducible exact ih0 _ _ _ _ _ _ _ _ _ _ _ _ _ _ _ _ _ _)
      | (with_reducible exact ih1 _ _ _ _ _ _ _ _ _ _ _ _ _ _ _ _ _ _)
      | (with_reducible exact ih2 _)
      | (with_reducible exact LeO.refl _)
      | (with_reducible exact LeO.none _)
      | (with_reducible refine LeO.ite ?_ ?_)
      | (with_reducible refine LeO.bind ?_ (fun _ => ?_))
      | exact ih0 _ _ _ _ _ _ _ _ _ _ _ _ _ _ _ _ _ _
      | exact ih1 _ _ _ _ _ _ _ _ _ _ _ _ _ _ _ _ _ _
      | exact ih2 _
      | exact LeO.none _
      | refine LeO.ite ?_ ?_
      | refine LeO.bind ?_ (fun _ => ?_)
theorem estoversref26_write.mono : ∀ a0 a1 a2 a3 a4 a5 a6 a7 a8 a9 a10 a11 a12 a13 a14 a15 a16 k, LeO (estoversref26_write.f k a0 a1 a2 a3 a4 a5 a6 a7 a8 a9 a10 a11 a12 a13 a14 a15 a16) (estoversref26_write.f (k + 1) a0 a1 a2 a3 a4 a5 a6 a7 a8 a9 a10 a11 a12 a13 a14 a15 a16) := by
  intro a0 a1 a2 a3 a4 a5 a6 a7 a8 a9 a10 a11 a12 a13 a14 a15 a16 k
  obtain ⟨ih0, ih1, ih2⟩ := estoversref26_write.mono_l k
  unfold estoversref26_write.f
  repeat' first
      | (with_reducible exact ih0 _ _ _ _ _ _ _ _ _ _ _ _ _ _ _ _ _ _)
      | (with_reducible exact ih1 _ _ _ _ _ _ _ _ _ _ _ _ _ _ _ _ _ _)
      | (with_reducible exact ih2 _)
      | (with_reducible exact LeO.refl _)
      | (with_reducible exact LeO.none _)
      | (with_reducible refine LeO.ite ?_ ?_)
      | (with_reducible refine LeO.bind ?_ (fun _ => ?_))
      | exact ih0 _ _ _ _ _ _ _ _ _ _ _ _ _ _ _ _ _ _
      | exact ih1 _ _ _ _ _ _ _ _ _ _ _ _ _ _ _ _ _ _
      | exact ih2 _
      | exact LeO.none _
      | refine LeO.ite ?_ ?_
      | refine LeO.bind ?_ (fun _ => ?_)
set_option maxHeartbeats 8000000 in
set_option maxRecDepth 100000 in
theorem estoversref26_write.calls (k : Nat) (a0_0 : Bool) (a0_1 : Bool) (a0_2 : Int) (a0_3 : Bool) (a0_4 : Bool) (a0_5 : Bool) (a0_6 : Bool) (a0_7 : Int) (a0_8 : Bool) (a0_9 : Bool) (a0_10 : Bool) (a0_11 : Bool) (a0_12 : Bool) (a0_13 : Bool) (a0_14 : Bool) (a0_15 : Bool) (a0_16 : Int) (r1 : Int) (r2 : Int) (r3 : Int) (r4 : Int) (r5 : Int) (r6 : Int) (w : World) (h : estoversref26_write.f k a0_0 a0_1 a0_2 a0_3 a0_4 a0_5 a0_6 a0_7 a0_8 a0_9 a0_10 a0_11 a0_12 a0_13 a0_14 a0_15 a0_16 = some (r1, r2, r3, r4, r5, r6)) :
    Calls Try.prog 25 #[.agg #[.bool a0_0, .bool a0_1, .int .i64 a0_2, .bool a0_3, .bool a0_4, .bool a0_5, .bool a0_6, .int .i64 a0_7, .bool a0_8, .bool a0_9, .bool a0_10, .bool a0_11, .bool a0_12, .bool a0_13, .bool a0_14, .bool a0_15, .int .i64 a0_16]] w fun e w' => e = .returned (.tuple #[.agg #[.int .i64 r1, .int .i64 r2, .int .i64 r3, .int .i64 r4, .int .i64 r5], .int .i64 r6]) ∧ Below w.heap.size w w' := by
  have hu23 := Try.underlying23
  have hu28 := Try.underlying28
  have HB := Aside0.mk (Below.refl w.heap.size w)
  have H : (if a0_10 = true then (estoversref26_write.j0 k a0_11 a0_0 a0_1 a0_2 a0_3 a0_4 a0_5 a0_6 a0_7 a0_8 a0_9 a0_10 a0_11 a0_12 a0_13 a0_14 a0_15 a0_16) else (estoversref26_write.j0 k false a0_0 a0_1 a0_2 a0_3 a0_4 a0_5 a0_6 a0_7 a0_8 a0_9 a0_10 a0_11 a0_12 a0_13 a0_14 a0_15 a0_16)) = some (r1, r2, r3, r4, r5, r6) := h
  clear h
  have HC2 := Aside0.mk H
  clear H
  go_enter Try.func25, Try.ntmps25
  go_upto_region 1 with (first | ((with_reducible refine gate_dst (N := 1) rfl ?_); refine box_event ?hg (N := 1) ?hd (cs := #[.bool a0_0, .bool a0_1, .int .i64 a0_2, .bool a0_3, .bool a0_4, .bool a0_5, .bool a0_6, .int .i64 a0_7, .bool a0_8, .bool a0_9, .bool a0_10, .bool a0_11, .bool a0_12, .bool a0_13, .bool a0_14, .bool a0_15, .int .i64 a0_16]) (t := 23) ?hr ?_; (case hd => rfl); (case hg => rfl); (case hr => first | (go_simp; done) | (go_simp; rfl)); intro gb116 hg w3 hbox hb; have n0_ := Aside0.mk (below_step (by repeat (first | (with_reducible first | exact HB.out | apply below_alloc | apply pw_below_drewN | apply below_drew1) | exact HB.out)) hb); have n1_ := Aside0.mk (hbox); have n2_ := Aside0.mk ((by rw [hg]; exact (below_size (by repeat (first | (with_reducible first | exact HB.out | apply below_alloc | apply pw_below_drewN | apply below_drew1) | exact HB.out))) : w.heap.size ≤ gb116)); have n3_ := Aside0.mk ((by rw [hg]; exact (below_size (by repeat (first | (with_reducible first | exact HB.out | apply below_alloc | apply pw_below_drewN | apply below_drew1) | exact HB.out))) : w.heap.size ≤ gb116)); clear HB; have HB := n0_; have BK116 := n1_; have GW116 := n2_; have GE116 := n3_; clear n0_ n1_ n2_ n3_; clear hb hbox hg) | ((with_reducible refine gate_dst (N := 2) rfl ?_); refine box_event ?hg (N := 2) ?hd (cs := #[.int .i64 0, .int .i64 0, .int .i64 0, .int .i64 0, .int .i64 0]) (t := 28) ?hr ?_; (case hd => rfl); (case hg => rfl); (case hr => first | (go_simp; done) | (go_simp; rfl)); intro gb117 hg w4 hbox hb; have n0_ := Aside0.mk (blk_below (g := gb116) (o := .cells #[.bool a0_0, .bool a0_1, .int .i64 a0_2, .bool a0_3, .bool a0_4, .bool a0_5, .bool a0_6, .int .i64 a0_7, .bool a0_8, .bool a0_9, .bool a0_10, .bool a0_11, .bool a0_12, .bool a0_13, .bool a0_14, .bool a0_15, .int .i64 a0_16] 23 (0, 0)) (by (with_reducible repeat (first | refine blk_drewN ?_ _ | refine blk_drew ?_ | refine blk_alloc ?_ _)); exact BK116.out) hb); have n1_ := Aside0.mk (below_step (by repeat (first | (with_reducible first | exact HB.out | apply below_alloc | apply pw_below_drewN | apply below_drew1 | refine below_set ?_ GE116.out) | exact HB.out)) hb); have n2_ := Aside0.mk (hbox); have n3_ := Aside0.mk ((by rw [hg]; exact (below_size (by repeat (first | (with_reducible first | exact HB.out | apply below_alloc | apply pw_below_drewN | apply below_drew1 | refine below_set ?_ GE116.out) | exact HB.out))) : w.heap.size ≤ gb117)); have n4_ := Aside0.mk ((by rw [hg]; exact (below_size (by repeat (first | (with_reducible first | exact HB.out | apply below_alloc | apply pw_below_drewN | apply below_drew1 | refine below_set ?_ GE116.out) | exact HB.out))) : w.heap.size ≤ gb117)); have n5_ := Aside0.mk ((by rw [hg]; exact Nat.ne_of_lt (blk_lt (g := gb116) (o := .cells #[.bool a0_0, .bool a0_1, .int .i64 a0_2, .bool a0_3, .bool a0_4, .bool a0_5, .bool a0_6, .int .i64 a0_7, .bool a0_8, .bool a0_9, .bool a0_10, .bool a0_11, .bool a0_12, .bool a0_13, .bool a0_14, .bool a0_15, .int .i64 a0_16] 23 (0, 0)) (by (with_reducible repeat (first | refine blk_drewN ?_ _ | refine blk_drew ?_ | refine blk_alloc ?_ _)); exact BK116.out)) : gb116 ≠ gb117)); have n6_ := Aside0.mk ((by rw [hg]; exact Nat.ne_of_gt (blk_lt (g := gb116) (o := .cells #[.bool a0_0, .bool a0_1, .int .i64 a0_2, .bool a0_3, .bool a0_4, .bool a0_5, .bool a0_6, .int .i64 a0_7, .bool a0_8, .bool a0_9, .bool a0_10, .bool a0_11, .bool a0_12, .bool a0_13, .bool a0_14, .bool a0_15, .int .i64 a0_16] 23 (0, 0)) (by (with_reducible repeat (first | refine blk_drewN ?_ _ | refine blk_drew ?_ | refine blk_alloc ?_ _)); exact BK116.out)) : gb117 ≠ gb116)); clear BK116; clear HB; have BK116 := n0_; have HB := n1_; have BK117 := n2_; have GW117 := n3_; have GE117 := n4_; have NB116_117 := n5_; have NB117_116 := n6_; clear n0_ n1_ n2_ n3_ n4_ n5_ n6_; clear hb hbox hg))
  (try simp only [Act.put, List.setIfInBounds_toArray, List.set_cons_zero, List.set_cons_succ])
  go_cut [9] (fun v9 wc => ∃ (kq : Nat) (x9_1 : Bool), v9 = .bool x9_1 ∧ Aside0 (estoversref26_write.j0 kq x9_1 a0_0 a0_1 a0_2 a0_3 a0_4 a0_5 a0_6 a0_7 a0_8 a0_9 a0_10 a0_11 a0_12 a0_13 a0_14 a0_15 a0_16 = some (r1, r2, r3, r4, r5, r6)) ∧ Aside0 (kq ≤ k) ∧ Aside0 (wc.heap[gb116]? = some (.cells #[.bool a0_0, .bool a0_1, .int .i64 a0_2, .bool a0_3, .bool a0_4, .bool a0_5, .bool a0_6, .int .i64 a0_7, .bool a0_8, .bool a0_9, .bool a0_10, .bool a0_11, .bool a0_12, .bool a0_13, .bool a0_14, .bool a0_15, .int .i64 a0_16] 23 (0, 0))) ∧ Aside0 (wc.heap[gb117]? = some (.cells #[.int .i64 0, .int .i64 0, .int .i64 0, .int .i64 0, .int .i64 0] 28 (0, 0))) ∧ Aside0 (Below w.heap.size w wc))
  case first =>
    have H := HC2.out
    clear HC2
    by_cases c5 : a0_10 = true
    · subst c5
      have H1 : (estoversref26_write.j0 k a0_11 a0_0 a0_1 a0_2 a0_3 a0_4 a0_5 a0_6 a0_7 a0_8 a0_9 true a0_11 a0_12 a0_13 a0_14 a0_15 a0_16) = some (r1, r2, r3, r4, r5, r6) := by rw [if_pos rfl] at H; exact H
      clear H
      have H := H1
      clear H1
      have H' := Aside0.mk H
      clear H
      have hnb6 := NB116_117.out
      have hnc6 := NB117_116.out
      have hcz7_0 : w4.cell? ⟨gb116, 0, none⟩ = some (.bool a0_0) := (blk_cell BK116.out 0).trans rfl
      have hcz7_1 : w4.cell? ⟨gb116, 1, none⟩ = some (.bool a0_1) := (blk_cell BK116.out 1).trans rfl
      have hcz7_2 : w4.cell? ⟨gb116, 2, none⟩ = some (.int .i64 a0_2) := (blk_cell BK116.out 2).trans rfl
      have hcz7_3 : w4.cell? ⟨gb116, 3, none⟩ = some (.bool a0_3) := (blk_cell BK116.out 3).trans rfl
      have hcz7_4 : w4.cell? ⟨gb116, 4, none⟩ = some (.bool a0_4) := (blk_cell BK116.out 4).trans rfl
      have hcz7_5 : w4.cell? ⟨gb116, 5, none⟩ = some (.bool a0_5) := (blk_cell BK116.out 5).trans rfl
      have hcz7_6 : w4.cell? ⟨gb116, 6, none⟩ = some (.bool a0_6) := (blk_cell BK116.out 6).trans rfl
      have hcz7_7 : w4.cell? ⟨gb116, 7, none⟩ = some (.int .i64 a0_7) := (blk_cell BK116.out 7).trans rfl
      have hcz7_8 : w4.cell? ⟨gb116, 8, none⟩ = some (.bool a0_8) := (blk_cell BK116.out 8).trans rfl
      have hcz7_9 : w4.cell? ⟨gb116, 9, none⟩ = some (.bool a0_9) := (blk_cell BK116.out 9).trans rfl
      have hcz7_10 : w4.cell? ⟨gb116, 10, none⟩ = some (.bool true) := (blk_cell BK116.out 10).trans rfl
      have hcz7_11 : w4.cell? ⟨gb116, 11, none⟩ = some (.bool a0_11) := (blk_cell BK116.out 11).trans rfl
      have hcz7_12 : w4.cell? ⟨gb116, 12, none⟩ = some (.bool a0_12) := (blk_cell BK116.out 12).trans rfl
      have hcz7_13 : w4.cell? ⟨gb116, 13, none⟩ = some (.bool a0_13) := (blk_cell BK116.out 13).trans rfl
      have hcz7_14 : w4.cell? ⟨gb116, 14, none⟩ = some (.bool a0_14) := (blk_cell BK116.out 14).trans rfl
      have hcz7_15 : w4.cell? ⟨gb116, 15, none⟩ = some (.bool a0_15) := (blk_cell BK116.out 15).trans rfl
      have hcz7_16 : w4.cell? ⟨gb116, 16, none⟩ = some (.int .i64 a0_16) := (blk_cell BK116.out 16).trans rfl
      have hfz7_0 := blk_frozen BK116.out 0
      have hfz7_1 := blk_frozen BK116.out 1
      have hfz7_2 := blk_frozen BK116.out 2
      have hfz7_3 := blk_frozen BK116.out 3
      have hfz7_4 := blk_frozen BK116.out 4
      have hfz7_5 := blk_frozen BK116.out 5
      have hfz7_6 := blk_frozen BK116.out 6
      have hfz7_7 := blk_frozen BK116.out 7
      have hfz7_8 := blk_frozen BK116.out 8
      have hfz7_9 := blk_frozen BK116.out 9
      have hfz7_10 := blk_frozen BK116.out 10
      have hfz7_11 := blk_frozen BK116.out 11
      have hfz7_12 := blk_frozen BK116.out 12
      have hfz7_13 := blk_frozen BK116.out 13
      have hfz7_14 := blk_frozen BK116.out 14
      have hfz7_15 := blk_frozen BK116.out 15
      have hfz7_16 := blk_frozen BK116.out 16
      go_wp2
      go_meet
      case rel => exact ⟨_, (a0_11), (by first | rfl | (simp; done) | (simp [*]; done)), H', ⟨by first | omega | exact Nat.le_refl _⟩, ⟨by (with_reducible repeat (first | refine blk_drewN ?_ _ | refine blk_drew ?_ | refine blk_alloc ?_ _)); exact BK116.out⟩, ⟨by (with_reducible repeat (first | refine blk_drewN ?_ _ | refine blk_drew ?_ | refine blk_alloc ?_ _)); exact BK117.out⟩, ⟨by repeat (first | (with_reducible first | exact HB.out | apply below_alloc | apply pw_below_drewN | apply below_drew1 | refine below_set ?_ GE116.out | refine below_set ?_ GE117.out) | exact HB.out)⟩⟩
    · replace c5 := Bool.eq_false_iff.mpr c5
      subst c5
      have H1 : (estoversref26_write.j0 k false a0_0 a0_1 a0_2 a0_3 a0_4 a0_5 a0_6 a0_7 a0_8 a0_9 false a0_11 a0_12 a0_13 a0_14 a0_15 a0_16) = some (r1, r2, r3, r4, r5, r6) := by rw [if_neg (show ¬ (false = true) by decide)] at H; exact H
      clear H
      have H := H1
      clear H1
      have H' := Aside0.mk H
      clear H
      have hnb8 := NB116_117.out
      have hnc8 := NB117_116.out
      have hcz9_0 : w4.cell? ⟨gb116, 0, none⟩ = some (.bool a0_0) := (blk_cell BK116.out 0).trans rfl
      have hcz9_1 : w4.cell? ⟨gb116, 1, none⟩ = some (.bool a0_1) := (blk_cell BK116.out 1).trans rfl
      have hcz9_2 : w4.cell? ⟨gb116, 2, none⟩ = some (.int .i64 a0_2) := (blk_cell BK116.out 2).trans rfl
      have hcz9_3 : w4.cell? ⟨gb116, 3, none⟩ = some (.bool a0_3) := (blk_cell BK116.out 3).trans rfl
      have hcz9_4 : w4.cell? ⟨gb116, 4, none⟩ = some (.bool a0_4) := (blk_cell BK116.out 4).trans rfl
      have hcz9_5 : w4.cell? ⟨gb116, 5, none⟩ = some (.bool a0_5) := (blk_cell BK116.out 5).trans rfl
      have hcz9_6 : w4.cell? ⟨gb116, 6, none⟩ = some (.bool a0_6) := (blk_cell BK116.out 6).trans rfl
      have hcz9_7 : w4.cell? ⟨gb116, 7, none⟩ = some (.int .i64 a0_7) := (blk_cell BK116.out 7).trans rfl
      have hcz9_8 : w4.cell? ⟨gb116, 8, none⟩ = some (.bool a0_8) := (blk_cell BK116.out 8).trans rfl
      have hcz9_9 : w4.cell? ⟨gb116, 9, none⟩ = some (.bool a0_9) := (blk_cell BK116.out 9).trans rfl
      have hcz9_10 : w4.cell? ⟨gb116, 10, none⟩ = some (.bool false) := (blk_cell BK116.out 10).trans rfl
      have hcz9_11 : w4.cell? ⟨gb116, 11, none⟩ = some (.bool a0_11) := (blk_cell BK116.out 11).trans rfl
      have hcz9_12 : w4.cell? ⟨gb116, 12, none⟩ = some (.bool a0_12) := (blk_cell BK116.out 12).trans rfl
      have hcz9_13 : w4.cell? ⟨gb116, 13, none⟩ = some (.bool a0_13) := (blk_cell BK116.out 13).trans rfl
      have hcz9_14 : w4.cell? ⟨gb116, 14, none⟩ = some (.bool a0_14) := (blk_cell BK116.out 14).trans rfl
      have hcz9_15 : w4.cell? ⟨gb116, 15, none⟩ = some (.bool a0_15) := (blk_cell BK116.out 15).trans rfl
      have hcz9_16 : w4.cell? ⟨gb116, 16, none⟩ = some (.int .i64 a0_16) := (blk_cell BK116.out 16).trans rfl
      have hfz9_0 := blk_frozen BK116.out 0
      have hfz9_1 := blk_frozen BK116.out 1
      have hfz9_2 := blk_frozen BK116.out 2
      have hfz9_3 := blk_frozen BK116.out 3
      have hfz9_4 := blk_frozen BK116.out 4
      have hfz9_5 := blk_frozen BK116.out 5
      have hfz9_6 := blk_frozen BK116.out 6
      have hfz9_7 := blk_frozen BK116.out 7
      have hfz9_8 := blk_frozen BK116.out 8
      have hfz9_9 := blk_frozen BK116.out 9
      have hfz9_10 := blk_frozen BK116.out 10
      have hfz9_11 := blk_frozen BK116.out 11
      have hfz9_12 := blk_frozen BK116.out 12
      have hfz9_13 := blk_frozen BK116.out 13
      have hfz9_14 := blk_frozen BK116.out 14
      have hfz9_15 := blk_frozen BK116.out 15
      have hfz9_16 := blk_frozen BK116.out 16
      go_wp2
      go_meet
      case rel => exact ⟨_, (false), (by first | rfl | (simp; done) | (simp [*]; done)), H', ⟨by first | omega | exact Nat.le_refl _⟩, ⟨by (with_reducible repeat (first | refine blk_drewN ?_ _ | refine blk_drew ?_ | refine blk_alloc ?_ _)); exact BK116.out⟩, ⟨by (with_reducible repeat (first | refine blk_drewN ?_ _ | refine blk_drew ?_ | refine blk_alloc ?_ _)); exact BK117.out⟩, ⟨by repeat (first | (with_reducible first | exact HB.out | apply below_alloc | apply pw_below_drewN | apply below_drew1 | refine below_set ?_ GE116.out | refine below_set ?_ GE117.out) | exact HB.out)⟩⟩
  case rest =>
    clear HC2
    try clear c2
    try clear p2
    try clear c5
    try clear c6
    try clear c8
    try clear hcz7_0
    try clear hcz7_1
    try clear hcz7_10
    try clear hcz7_11
    try clear hcz7_12
    try clear hcz7_13
    try clear hcz7_14
    try clear hcz7_15
    try clear hcz7_16
    try clear hcz7_2
    try clear hcz7_3
    try clear hcz7_4
    try clear hcz7_5
    try clear hcz7_6
    try clear hcz7_7
    try clear hcz7_8
    try clear hcz7_9
    try clear hcz9_0
    try clear hcz9_1
    try clear hcz9_10
    try clear hcz9_11
    try clear hcz9_12
    try clear hcz9_13
    try clear hcz9_14
    try clear hcz9_15
    try clear hcz9_16
    try clear hcz9_2
    try clear hcz9_3
    try clear hcz9_4
    try clear hcz9_5
    try clear hcz9_6
    try clear hcz9_7
    try clear hcz9_8
    try clear hcz9_9
    try clear hfz7_0
    try clear hfz7_1
    try clear hfz7_10
    try clear hfz7_11
    try clear hfz7_12
    try clear hfz7_13
    try clear hfz7_14
    try clear hfz7_15
    try clear hfz7_16
    try clear hfz7_2
    try clear hfz7_3
    try clear hfz7_4
    try clear hfz7_5
    try clear hfz7_6
    try clear hfz7_7
    try clear hfz7_8
    try clear hfz7_9
    try clear hfz9_0
    try clear hfz9_1
    try clear hfz9_10
    try clear hfz9_11
    try clear hfz9_12
    try clear hfz9_13
    try clear hfz9_14
    try clear hfz9_15
    try clear hfz9_16
    try clear hfz9_2
    try clear hfz9_3
    try clear hfz9_4
    try clear hfz9_5
    try clear hfz9_6
    try clear hfz9_7
    try clear hfz9_8
    try clear hfz9_9
    obtain ⟨kq, x9_1, rfl, HA, HJ1, BK116, BK117, HB⟩ := hcut
    cases kq with
    | zero => exact absurd HA.out (by simp [estoversref26_write.j0])
    | succ kj1 =>
      have H := HA.out
      clear HA
      simp only [estoversref26_write.j0] at H
      by_cases c10 : x9_1 = true
      · subst c10
        have H1 : ((estoversref26_plan.f 8 0 0).bind fun bt118 => (some (bt118.1, bt118.2.1, bt118.2.2.1, bt118.2.2.2.1, bt118.2.2.2.2.1, bt118.2.2.2.2.2))) = some (r1, r2, r3, r4, r5, r6) := by rw [if_pos rfl] at H; exact H
        clear H
        have H := H1
        clear H1
        replace H := Option.bind_eq_some_iff.mp H
        obtain ⟨⟨t118, t119, t120, t121, t122, t123⟩, A110, H⟩ := H
        replace H : (some (t118, t119, t120, t121, t122, t123)) = some (r1, r2, r3, r4, r5, r6) := H
        have A11 := Aside0.mk A110
        clear A110
        simp only [Option.some.injEq, Prod.mk.injEq] at H
        obtain ⟨rfl, rfl, rfl, rfl, rfl, rfl⟩ := H
        go_wp2_with (first | ((with_reducible refine gate_callee (f := 23) rfl ?_); refine goesL_ (some 10) rfl rfl Try.func23 (by kernel_rfl) rfl #[.int .i64 8, .int .i64 0, .int .i64 0] rfl (by (try simp only [List.map_toArray, List.map_cons, List.map_nil]); first | done | rfl | (simp only [List.length_drop, List.length_take]; rfl)) ?_; (with_reducible refine (estoversref26_plan.calls 8 0 0 t118 t119 t120 t121 t122 t123 _ A11.out).mono ?_); rintro e w12 ⟨rfl, hb⟩; refine ⟨_, rfl, ?_⟩; have n0_ := Aside0.mk (blk_below (g := gb116) (o := .cells #[.bool a0_0, .bool a0_1, .int .i64 a0_2, .bool a0_3, .bool a0_4, .bool a0_5, .bool a0_6, .int .i64 a0_7, .bool a0_8, .bool a0_9, .bool a0_10, .bool a0_11, .bool a0_12, .bool a0_13, .bool a0_14, .bool a0_15, .int .i64 a0_16] 23 (0, 0)) (by (with_reducible repeat (first | refine blk_drewN ?_ _ | refine blk_drew ?_ | refine blk_alloc ?_ _)); exact BK116.out) hb); have n1_ := Aside0.mk (blk_below (g := gb117) (o := .cells #[.int .i64 0, .int .i64 0, .int .i64 0, .int .i64 0, .int .i64 0] 28 (0, 0)) (by (with_reducible repeat (first | refine blk_drewN ?_ _ | refine blk_drew ?_ | refine blk_alloc ?_ _)); exact BK117.out) hb); have n2_ := Aside0.mk (below_step (by repeat (first | (with_reducible first | exact HB.out | apply below_alloc | apply pw_below_drewN | apply below_drew1 | refine below_set ?_ GE116.out | refine below_set ?_ GE117.out) | exact HB.out)) hb); clear BK116; clear BK117; clear HB; have BK116 := n0_; have BK117 := n1_; have HB := n2_; clear n0_ n1_ n2_; (try clear hb); (try clear hb2); (try clear hk); (try clear hi); have hnb13 := NB117_116.out; have hnc13 := NB116_117.out; have hcz14_0 : w12.cell? ⟨gb117, 0, none⟩ = some (.int .i64 0) := (blk_cell BK117.out 0).trans rfl; have hcz14_1 : w12.cell? ⟨gb117, 1, none⟩ = some (.int .i64 0) := (blk_cell BK117.out 1).trans rfl; have hcz14_2 : w12.cell? ⟨gb117, 2, none⟩ = some (.int .i64 0) := (blk_cell BK117.out 2).trans rfl; have hcz14_3 : w12.cell? ⟨gb117, 3, none⟩ = some (.int .i64 0) := (blk_cell BK117.out 3).trans rfl; have hcz14_4 : w12.cell? ⟨gb117, 4, none⟩ = some (.int .i64 0) := (blk_cell BK117.out 4).trans rfl; have hfz14_0 := blk_frozen BK117.out 0; have hfz14_1 := blk_frozen BK117.out 1; have hfz14_2 := blk_frozen BK117.out 2; have hfz14_3 := blk_frozen BK117.out 3; have hfz14_4 := blk_frozen BK117.out 4))
        refine bodyPost_ret (results_ct rfl _ _ gb117 28 #[.int .i64 t118, .int .i64 t119, .int .i64 t120, .int .i64 t121, .int .i64 t122] (0, 0) _ rfl (by (with_reducible repeat (first | refine blk_drewN ?_ _ | refine blk_drew ?_ | refine blk_alloc ?_ _)); refine blk_put (cs := #[.int .i64 t118, .int .i64 t119, .int .i64 t120, .int .i64 t121, .int .i64 0]) ?_ 4 _ rfl; (with_reducible repeat (first | refine blk_drewN ?_ _ | refine blk_drew ?_ | refine blk_alloc ?_ _)); refine blk_put (cs := #[.int .i64 t118, .int .i64 t119, .int .i64 t120, .int .i64 0, .int .i64 0]) ?_ 3 _ rfl; (with_reducible repeat (first | refine blk_drewN ?_ _ | refine blk_drew ?_ | refine blk_alloc ?_ _)); refine blk_put (cs := #[.int .i64 t118, .int .i64 t119, .int .i64 0, .int .i64 0, .int .i64 0]) ?_ 2 _ rfl; (with_reducible repeat (first | refine blk_drewN ?_ _ | refine blk_drew ?_ | refine blk_alloc ?_ _)); refine blk_put (cs := #[.int .i64 t118, .int .i64 0, .int .i64 0, .int .i64 0, .int .i64 0]) ?_ 1 _ rfl; (with_reducible repeat (first | refine blk_drewN ?_ _ | refine blk_drew ?_ | refine blk_alloc ?_ _)); refine blk_put (cs := #[.int .i64 0, .int .i64 0, .int .i64 0, .int .i64 0, .int .i64 0]) ?_ 0 _ rfl; (with_reducible repeat (first | refine blk_drewN ?_ _ | refine blk_drew ?_ | refine blk_alloc ?_ _)); exact BK117.out) Try.underlying28 rfl (by kernel_rfl)) rfl ?_
        exact ⟨by first | rfl | (simp [errW_none, errW_some] <;> rfl) | (simp [*, errW_none, errW_some] <;> rfl), by repeat (first | (with_reducible first | exact HB.out | apply below_alloc | apply pw_below_drewN | apply below_drew1 | refine below_set ?_ GE116.out | refine below_set ?_ GE117.out) | exact HB.out)⟩
      · replace c10 := Bool.eq_false_iff.mpr c10
        subst c10
        have H1 : (if a0_10 = true then (estoversref26_write.j1 kj1 true a0_0 a0_1 a0_2 a0_3 a0_4 a0_5 a0_6 a0_7 a0_8 a0_9 a0_10 a0_11 a0_12 a0_13 a0_14 a0_15 a0_16) else (estoversref26_write.j1 kj1 (!a0_3) a0_0 a0_1 a0_2 a0_3 a0_4 a0_5 a0_6 a0_7 a0_8 a0_9 a0_10 a0_11 a0_12 a0_13 a0_14 a0_15 a0_16)) = some (r1, r2, r3, r4, r5, r6) := by rw [if_neg (show ¬ (false = true) by decide)] at H; exact H
        clear H
        have H := H1
        clear H1
        have HC15 := Aside0.mk H
        clear H
        go_upto_region 3 with (fail)
        go_cut [19] (fun v19 wc => ∃ (kq : Nat) (x19_14 : Bool), v19 = .bool x19_14 ∧ Aside0 (estoversref26_write.j1 kq x19_14 a0_0 a0_1 a0_2 a0_3 a0_4 a0_5 a0_6 a0_7 a0_8 a0_9 a0_10 a0_11 a0_12 a0_13 a0_14 a0_15 a0_16 = some (r1, r2, r3, r4, r5, r6)) ∧ Aside0 (kq ≤ kj1) ∧ Aside0 (wc.heap[gb116]? = some (.cells #[.bool a0_0, .bool a0_1, .int .i64 a0_2, .bool a0_3, .bool a0_4, .bool a0_5, .bool a0_6, .int .i64 a0_7, .bool a0_8, .bool a0_9, .bool a0_10, .bool a0_11, .bool a0_12, .bool a0_13, .bool a0_14, .bool a0_15, .int .i64 a0_16] 23 (0, 0))) ∧ Aside0 (wc.heap[gb117]? = some (.cells #[.int .i64 0, .int .i64 0, .int .i64 0, .int .i64 0, .int .i64 0] 28 (0, 0))) ∧ Aside0 (Below w.heap.size w wc))
        case first =>
          have H := HC15.out
          clear HC15
          by_cases c16 : a0_10 = true
          · subst c16
            have H1 : (estoversref26_write.j1 kj1 true a0_0 a0_1 a0_2 a0_3 a0_4 a0_5 a0_6 a0_7 a0_8 a0_9 true a0_11 a0_12 a0_13 a0_14 a0_15 a0_16) = some (r1, r2, r3, r4, r5, r6) := by rw [if_pos rfl] at H; exact H
            clear H
            have H := H1
            clear H1
            have H' := Aside0.mk H
            clear H
            have hnb17 := NB116_117.out
            have hnc17 := NB117_116.out
            have hcz18_0 : wc.cell? ⟨gb116, 0, none⟩ = some (.bool a0_0) := (blk_cell BK116.out 0).trans rfl
            have hcz18_1 : wc.cell? ⟨gb116, 1, none⟩ = some (.bool a0_1) := (blk_cell BK116.out 1).trans rfl
            have hcz18_2 : wc.cell? ⟨gb116, 2, none⟩ = some (.int .i64 a0_2) := (blk_cell BK116.out 2).trans rfl
            have hcz18_3 : wc.cell? ⟨gb116, 3, none⟩ = some (.bool a0_3) := (blk_cell BK116.out 3).trans rfl
            have hcz18_4 : wc.cell? ⟨gb116, 4, none⟩ = some (.bool a0_4) := (blk_cell BK116.out 4).trans rfl
            have hcz18_5 : wc.cell? ⟨gb116, 5, none⟩ = some (.bool a0_5) := (blk_cell BK116.out 5).trans rfl
            have hcz18_6 : wc.cell? ⟨gb116, 6, none⟩ = some (.bool a0_6) := (blk_cell BK116.out 6).trans rfl
            have hcz18_7 : wc.cell? ⟨gb116, 7, none⟩ = some (.int .i64 a0_7) := (blk_cell BK116.out 7).trans rfl
            have hcz18_8 : wc.cell? ⟨gb116, 8, none⟩ = some (.bool a0_8) := (blk_cell BK116.out 8).trans rfl
            have hcz18_9 : wc.cell? ⟨gb116, 9, none⟩ = some (.bool a0_9) := (blk_cell BK116.out 9).trans rfl
            have hcz18_10 : wc.cell? ⟨gb116, 10, none⟩ = some (.bool true) := (blk_cell BK116.out 10).trans rfl
            have hcz18_11 : wc.cell? ⟨gb116, 11, none⟩ = some (.bool a0_11) := (blk_cell BK116.out 11).trans rfl
            have hcz18_12 : wc.cell? ⟨gb116, 12, none⟩ = some (.bool a0_12) := (blk_cell BK116.out 12).trans rfl
            have hcz18_13 : wc.cell? ⟨gb116, 13, none⟩ = some (.bool a0_13) := (blk_cell BK116.out 13).trans rfl
            have hcz18_14 : wc.cell? ⟨gb116, 14, none⟩ = some (.bool a0_14) := (blk_cell BK116.out 14).trans rfl
            have hcz18_15 : wc.cell? ⟨gb116, 15, none⟩ = some (.bool a0_15) := (blk_cell BK116.out 15).trans rfl
            have hcz18_16 : wc.cell? ⟨gb116, 16, none⟩ = some (.int .i64 a0_16) := (blk_cell BK116.out 16).trans rfl
            have hfz18_0 := blk_frozen BK116.out 0
            have hfz18_1 := blk_frozen BK116.out 1
            have hfz18_2 := blk_frozen BK116.out 2
            have hfz18_3 := blk_frozen BK116.out 3
            have hfz18_4 := blk_frozen BK116.out 4
            have hfz18_5 := blk_frozen BK116.out 5
            have hfz18_6 := blk_frozen BK116.out 6
            have hfz18_7 := blk_frozen BK116.out 7
            have hfz18_8 := blk_frozen BK116.out 8
            have hfz18_9 := blk_frozen BK116.out 9
            have hfz18_10 := blk_frozen BK116.out 10
            have hfz18_11 := blk_frozen BK116.out 11
            have hfz18_12 := blk_frozen BK116.out 12
            have hfz18_13 := blk_frozen BK116.out 13
            have hfz18_14 := blk_frozen BK116.out 14
            have hfz18_15 := blk_frozen BK116.out 15
            have hfz18_16 := blk_frozen BK116.out 16
            go_wp2
            go_meet
            case rel => exact ⟨_, (true), (by first | rfl | (simp; done) | (simp [*]; done)), H', ⟨by have := HJ1.out; first | omega | exact Nat.le_refl _⟩, ⟨by (with_reducible repeat (first | refine blk_drewN ?_ _ | refine blk_drew ?_ | refine blk_alloc ?_ _)); exact BK116.out⟩, ⟨by (with_reducible repeat (first | refine blk_drewN ?_ _ | refine blk_drew ?_ | refine blk_alloc ?_ _)); exact BK117.out⟩, ⟨by repeat (first | (with_reducible first | exact HB.out | apply below_alloc | apply pw_below_drewN | apply below_drew1 | refine below_set ?_ GE116.out | refine below_set ?_ GE117.out) | exact HB.out)⟩⟩
          · replace c16 := Bool.eq_false_iff.mpr c16
            subst c16
            have H1 : (estoversref26_write.j1 kj1 (!a0_3) a0_0 a0_1 a0_2 a0_3 a0_4 a0_5 a0_6 a0_7 a0_8 a0_9 false a0_11 a0_12 a0_13 a0_14 a0_15 a0_16) = some (r1, r2, r3, r4, r5, r6) := by rw [if_neg (show ¬ (false = true) by decide)] at H; exact H
            clear H
            have H := H1
            clear H1
            have H' := Aside0.mk H
            clear H
            have hnb19 := NB116_117.out
            have hnc19 := NB117_116.out
            have hcz20_0 : wc.cell? ⟨gb116, 0, none⟩ = some (.bool a0_0) := (blk_cell BK116.out 0).trans rfl
            have hcz20_1 : wc.cell? ⟨gb116, 1, none⟩ = some (.bool a0_1) := (blk_cell BK116.out 1).trans rfl
            have hcz20_2 : wc.cell? ⟨gb116, 2, none⟩ = some (.int .i64 a0_2) := (blk_cell BK116.out 2).trans rfl
            have hcz20_3 : wc.cell? ⟨gb116, 3, none⟩ = some (.bool a0_3) := (blk_cell BK116.out 3).trans rfl
            have hcz20_4 : wc.cell? ⟨gb116, 4, none⟩ = some (.bool a0_4) := (blk_cell BK116.out 4).trans rfl
            have hcz20_5 : wc.cell? ⟨gb116, 5, none⟩ = some (.bool a0_5) := (blk_cell BK116.out 5).trans rfl
            have hcz20_6 : wc.cell? ⟨gb116, 6, none⟩ = some (.bool a0_6) := (blk_cell BK116.out 6).trans rfl
            have hcz20_7 : wc.cell? ⟨gb116, 7, none⟩ = some (.int .i64 a0_7) := (blk_cell BK116.out 7).trans rfl
            have hcz20_8 : wc.cell? ⟨gb116, 8, none⟩ = some (.bool a0_8) := (blk_cell BK116.out 8).trans rfl
            have hcz20_9 : wc.cell? ⟨gb116, 9, none⟩ = some (.bool a0_9) := (blk_cell BK116.out 9).trans rfl
            have hcz20_10 : wc.cell? ⟨gb116, 10, none⟩ = some (.bool false) := (blk_cell BK116.out 10).trans rfl
            have hcz20_11 : wc.cell? ⟨gb116, 11, none⟩ = some (.bool a0_11) := (blk_cell BK116.out 11).trans rfl
            have hcz20_12 : wc.cell? ⟨gb116, 12, none⟩ = some (.bool a0_12) := (blk_cell BK116.out 12).trans rfl
            have hcz20_13 : wc.cell? ⟨gb116, 13, none⟩ = some (.bool a0_13) := (blk_cell BK116.out 13).trans rfl
            have hcz20_14 : wc.cell? ⟨gb116, 14, none⟩ = some (.bool a0_14) := (blk_cell BK116.out 14).trans rfl
            have hcz20_15 : wc.cell? ⟨gb116, 15, none⟩ = some (.bool a0_15) := (blk_cell BK116.out 15).trans rfl
            have hcz20_16 : wc.cell? ⟨gb116, 16, none⟩ = some (.int .i64 a0_16) := (blk_cell BK116.out 16).trans rfl
            have hfz20_0 := blk_frozen BK116.out 0
            have hfz20_1 := blk_frozen BK116.out 1
            have hfz20_2 := blk_frozen BK116.out 2
            have hfz20_3 := blk_frozen BK116.out 3
            have hfz20_4 := blk_frozen BK116.out 4
            have hfz20_5 := blk_frozen BK116.out 5
            have hfz20_6 := blk_frozen BK116.out 6
            have hfz20_7 := blk_frozen BK116.out 7
            have hfz20_8 := blk_frozen BK116.out 8
            have hfz20_9 := blk_frozen BK116.out 9
            have hfz20_10 := blk_frozen BK116.out 10
            have hfz20_11 := blk_frozen BK116.out 11
            have hfz20_12 := blk_frozen BK116.out 12
            have hfz20_13 := blk_frozen BK116.out 13
            have hfz20_14 := blk_frozen BK116.out 14
            have hfz20_15 := blk_frozen BK116.out 15
            have hfz20_16 := blk_frozen BK116.out 16
            go_wp2
            go_meet
            case rel => exact ⟨_, (!a0_3), (by first | rfl | (simp; done) | (simp [*]; done)), H', ⟨by have := HJ1.out; first | omega | exact Nat.le_refl _⟩, ⟨by (with_reducible repeat (first | refine blk_drewN ?_ _ | refine blk_drew ?_ | refine blk_alloc ?_ _)); exact BK116.out⟩, ⟨by (with_reducible repeat (first | refine blk_drewN ?_ _ | refine blk_drew ?_ | refine blk_alloc ?_ _)); exact BK117.out⟩, ⟨by repeat (first | (with_reducible first | exact HB.out | apply below_alloc | apply pw_below_drewN | apply below_drew1 | refine below_set ?_ GE116.out | refine below_set ?_ GE117.out) | exact HB.out)⟩⟩
        case rest =>
          clear HC15
          try clear c1
          try clear c2
          try clear p2
          try clear c5
          try clear c6
          try clear c8
          try clear c10
          try clear c13
          try clear c16
          try clear c17
          try clear c19
          try clear hcz14_0
          try clear hcz14_1
          try clear hcz14_2
          try clear hcz14_3
          try clear hcz14_4
          try clear hcz18_0
          try clear hcz18_1
          try clear hcz18_10
          try clear hcz18_11
          try clear hcz18_12
          try clear hcz18_13
          try clear hcz18_14
          try clear hcz18_15
          try clear hcz18_16
          try clear hcz18_2
          try clear hcz18_3
          try clear hcz18_4
          try clear hcz18_5
          try clear hcz18_6
          try clear hcz18_7
          try clear hcz18_8
          try clear hcz18_9
          try clear hcz20_0
          try clear hcz20_1
          try clear hcz20_10
          try clear hcz20_11
          try clear hcz20_12
          try clear hcz20_13
          try clear hcz20_14
          try clear hcz20_15
          try clear hcz20_16
          try clear hcz20_2
          try clear hcz20_3
          try clear hcz20_4
          try clear hcz20_5
          try clear hcz20_6
          try clear hcz20_7
          try clear hcz20_8
          try clear hcz20_9
          try clear hcz7_0
          try clear hcz7_1
          try clear hcz7_10
          try clear hcz7_11
          try clear hcz7_12
          try clear hcz7_13
          try clear hcz7_14
          try clear hcz7_15
          try clear hcz7_16
          try clear hcz7_2
          try clear hcz7_3
          try clear hcz7_4
          try clear hcz7_5
          try clear hcz7_6
          try clear hcz7_7
          try clear hcz7_8
          try clear hcz7_9
          try clear hcz9_0
          try clear hcz9_1
          try clear hcz9_10
          try clear hcz9_11
          try clear hcz9_12
          try clear hcz9_13
          try clear hcz9_14
          try clear hcz9_15
          try clear hcz9_16
          try clear hcz9_2
          try clear hcz9_3
          try clear hcz9_4
          try clear hcz9_5
          try clear hcz9_6
          try clear hcz9_7
          try clear hcz9_8
          try clear hcz9_9
          try clear hfz14_0
          try clear hfz14_1
          try clear hfz14_2
          try clear hfz14_3
          try clear hfz14_4
          try clear hfz18_0
          try clear hfz18_1
          try clear hfz18_10
          try clear hfz18_11
          try clear hfz18_12
          try clear hfz18_13
          try clear hfz18_14
          try clear hfz18_15
          try clear hfz18_16
          try clear hfz18_2
          try clear hfz18_3
          try clear hfz18_4
          try clear hfz18_5
          try clear hfz18_6
          try clear hfz18_7
          try clear hfz18_8
          try clear hfz18_9
          try clear hfz20_0
          try clear hfz20_1
          try clear hfz20_10
          try clear hfz20_11
          try clear hfz20_12
          try clear hfz20_13
          try clear hfz20_14
          try clear hfz20_15
          try clear hfz20_16
          try clear hfz20_2
          try clear hfz20_3
          try clear hfz20_4
          try clear hfz20_5
          try clear hfz20_6
          try clear hfz20_7
          try clear hfz20_8
          try clear hfz20_9
          try clear hfz7_0
          try clear hfz7_1
          try clear hfz7_10
          try clear hfz7_11
          try clear hfz7_12
          try clear hfz7_13
          try clear hfz7_14
          try clear hfz7_15
          try clear hfz7_16
          try clear hfz7_2
          try clear hfz7_3
          try clear hfz7_4
          try clear hfz7_5
          try clear hfz7_6
          try clear hfz7_7
          try clear hfz7_8
          try clear hfz7_9
          try clear hfz9_0
          try clear hfz9_1
          try clear hfz9_10
          try clear hfz9_11
          try clear hfz9_12
          try clear hfz9_13
          try clear hfz9_14
          try clear hfz9_15
          try clear hfz9_16
          try clear hfz9_2
          try clear hfz9_3
          try clear hfz9_4
          try clear hfz9_5
          try clear hfz9_6
          try clear hfz9_7
          try clear hfz9_8
          try clear hfz9_9
          try clear p2
          obtain ⟨kq, x19_14, rfl, HA, HJ14, BK116, BK117, HB⟩ := hcut
          cases kq with
          | zero => exact absurd HA.out (by simp [estoversref26_write.j1])
          | succ kj14 =>
            have H := HA.out
            clear HA
            simp only [estoversref26_write.j1] at H
            by_cases c21 : x19_14 = true
            · subst c21
              have H1 : ((estoversref26_plan.f 9 0 1).bind fun bt124 => (some (bt124.1, bt124.2.1, bt124.2.2.1, bt124.2.2.2.1, bt124.2.2.2.2.1, bt124.2.2.2.2.2))) = some (r1, r2, r3, r4, r5, r6) := by rw [if_pos rfl] at H; exact H
              clear H
              have H := H1
              clear H1
              replace H := Option.bind_eq_some_iff.mp H
              obtain ⟨⟨t124, t125, t126, t127, t128, t129⟩, A220, H⟩ := H
              replace H : (some (t124, t125, t126, t127, t128, t129)) = some (r1, r2, r3, r4, r5, r6) := H
              have A22 := Aside0.mk A220
              clear A220
              simp only [Option.some.injEq, Prod.mk.injEq] at H
              obtain ⟨rfl, rfl, rfl, rfl, rfl, rfl⟩ := H
              go_wp2_with (first | ((with_reducible refine gate_callee (f := 23) rfl ?_); refine goesL_ (some 20) rfl rfl Try.func23 (by kernel_rfl) rfl #[.int .i64 9, .int .i64 0, .int .i64 1] rfl (by (try simp only [List.map_toArray, List.map_cons, List.map_nil]); first | done | rfl | (simp only [List.length_drop, List.length_take]; rfl)) ?_; (with_reducible refine (estoversref26_plan.calls 9 0 1 t124 t125 t126 t127 t128 t129 _ A22.out).mono ?_); rintro e w23 ⟨rfl, hb⟩; refine ⟨_, rfl, ?_⟩; have n0_ := Aside0.mk (blk_below (g := gb116) (o := .cells #[.bool a0_0, .bool a0_1, .int .i64 a0_2, .bool a0_3, .bool a0_4, .bool a0_5, .bool a0_6, .int .i64 a0_7, .bool a0_8, .bool a0_9, .bool a0_10, .bool a0_11, .bool a0_12, .bool a0_13, .bool a0_14, .bool a0_15, .int .i64 a0_16] 23 (0, 0)) (by (with_reducible repeat (first | refine blk_drewN ?_ _ | refine blk_drew ?_ | refine blk_alloc ?_ _)); exact BK116.out) hb); have n1_ := Aside0.mk (blk_below (g := gb117) (o := .cells #[.int .i64 0, .int .i64 0, .int .i64 0, .int .i64 0, .int .i64 0] 28 (0, 0)) (by (with_reducible repeat (first | refine blk_drewN ?_ _ | refine blk_drew ?_ | refine blk_alloc ?_ _)); exact BK117.out) hb); have n2_ := Aside0.mk (below_step (by repeat (first | (with_reducible first | exact HB.out | apply below_alloc | apply pw_below_drewN | apply below_drew1 | refine below_set ?_ GE116.out | refine below_set ?_ GE117.out) | exact HB.out)) hb); clear BK116; clear BK117; clear HB; have BK116 := n0_; have BK117 := n1_; have HB := n2_; clear n0_ n1_ n2_; (try clear hb); (try clear hb2); (try clear hk); (try clear hi); have hnb24 := NB117_116.out; have hnc24 := NB116_117.out; have hcz25_0 : w23.cell? ⟨gb117, 0, none⟩ = some (.int .i64 0) := (blk_cell BK117.out 0).trans rfl; have hcz25_1 : w23.cell? ⟨gb117, 1, none⟩ = some (.int .i64 0) := (blk_cell BK117.out 1).trans rfl; have hcz25_2 : w23.cell? ⟨gb117, 2, none⟩ = some (.int .i64 0) := (blk_cell BK117.out 2).trans rfl; have hcz25_3 : w23.cell? ⟨gb117, 3, none⟩ = some (.int .i64 0) := (blk_cell BK117.out 3).trans rfl; have hcz25_4 : w23.cell? ⟨gb117, 4, none⟩ = some (.int .i64 0) := (blk_cell BK117.out 4).trans rfl; have hfz25_0 := blk_frozen BK117.out 0; have hfz25_1 := blk_frozen BK117.out 1; have hfz25_2 := blk_frozen BK117.out 2; have hfz25_3 := blk_frozen BK117.out 3; have hfz25_4 := blk_frozen BK117.out 4))
              refine bodyPost_ret (results_ct rfl _ _ gb117 28 #[.int .i64 t124, .int .i64 t125, .int .i64 t126, .int .i64 t127, .int .i64 t128] (0, 0) _ rfl (by (with_reducible repeat (first | refine blk_drewN ?_ _ | refine blk_drew ?_ | refine blk_alloc ?_ _)); refine blk_put (cs := #[.int .i64 t124, .int .i64 t125, .int .i64 t126, .int .i64 t127, .int .i64 0]) ?_ 4 _ rfl; (with_reducible repeat (first | refine blk_drewN ?_ _ | refine blk_drew ?_ | refine blk_alloc ?_ _)); refine blk_put (cs := #[.int .i64 t124, .int .i64 t125, .int .i64 t126, .int .i64 0, .int .i64 0]) ?_ 3 _ rfl; (with_reducible repeat (first | refine blk_drewN ?_ _ | refine blk_drew ?_ | refine blk_alloc ?_ _)); refine blk_put (cs := #[.int .i64 t124, .int .i64 t125, .int .i64 0, .int .i64 0, .int .i64 0]) ?_ 2 _ rfl; (with_reducible repeat (first | refine blk_drewN ?_ _ | refine blk_drew ?_ | refine blk_alloc ?_ _)); refine blk_put (cs := #[.int .i64 t124, .int .i64 0, .int .i64 0, .int .i64 0, .int .i64 0]) ?_ 1 _ rfl; (with_reducible repeat (first | refine blk_drewN ?_ _ | refine blk_drew ?_ | refine blk_alloc ?_ _)); refine blk_put (cs := #[.int .i64 0, .int .i64 0, .int .i64 0, .int .i64 0, .int .i64 0]) ?_ 0 _ rfl; (with_reducible repeat (first | refine blk_drewN ?_ _ | refine blk_drew ?_ | refine blk_alloc ?_ _)); exact BK117.out) Try.underlying28 rfl (by kernel_rfl)) rfl ?_
              exact ⟨by first | rfl | (simp [errW_none, errW_some] <;> rfl) | (simp [*, errW_none, errW_some] <;> rfl), by repeat (first | (with_reducible first | exact HB.out | apply below_alloc | apply pw_below_drewN | apply below_drew1 | refine below_set ?_ GE116.out | refine below_set ?_ GE117.out) | exact HB.out)⟩
            · replace c21 := Bool.eq_false_iff.mpr c21
              subst c21
              have H1 : (if a0_14 = true then (estoversref26_write.j2 kj14 false) else (estoversref26_write.j2 kj14 a0_15)) = some (r1, r2, r3, r4, r5, r6) := by rw [if_neg (show ¬ (false = true) by decide)] at H; exact H
              clear H
              have H := H1
              clear H1
              have HC26 := Aside0.mk H
              clear H
              go_upto_region 5 with (fail)
              go_cut [29] (fun v29 wc => ∃ (kq : Nat) (x29_25 : Bool), v29 = .bool x29_25 ∧ Aside0 (estoversref26_write.j2 kq x29_25 = some (r1, r2, r3, r4, r5, r6)) ∧ Aside0 (kq ≤ kj14) ∧ Aside0 (wc.heap[gb116]? = some (.cells #[.bool a0_0, .bool a0_1, .int .i64 a0_2, .bool a0_3, .bool a0_4, .bool a0_5, .bool a0_6, .int .i64 a0_7, .bool a0_8, .bool a0_9, .bool a0_10, .bool a0_11, .bool a0_12, .bool a0_13, .bool a0_14, .bool a0_15, .int .i64 a0_16] 23 (0, 0))) ∧ Aside0 (wc.heap[gb117]? = some (.cells #[.int .i64 0, .int .i64 0, .int .i64 0, .int .i64 0, .int .i64 0] 28 (0, 0))) ∧ Aside0 (Below w.heap.size w wc))
              case first =>
                have H := HC26.out
                clear HC26
                by_cases c27 : a0_14 = true
                · subst c27
                  have H1 : (estoversref26_write.j2 kj14 false) = some (r1, r2, r3, r4, r5, r6) := by rw [if_pos rfl] at H; exact H
                  clear H
                  have H := H1
                  clear H1
                  have H' := Aside0.mk H
                  clear H
                  have hnb28 := NB116_117.out
                  have hnc28 := NB117_116.out
                  have hcz29_0 : wc.cell? ⟨gb116, 0, none⟩ = some (.bool a0_0) := (blk_cell BK116.out 0).trans rfl
                  have hcz29_1 : wc.cell? ⟨gb116, 1, none⟩ = some (.bool a0_1) := (blk_cell BK116.out 1).trans rfl
                  have hcz29_2 : wc.cell? ⟨gb116, 2, none⟩ = some (.int .i64 a0_2) := (blk_cell BK116.out 2).trans rfl
                  have hcz29_3 : wc.cell? ⟨gb116, 3, none⟩ = some (.bool a0_3) := (blk_cell BK116.out 3).trans rfl
                  have hcz29_4 : wc.cell? ⟨gb116, 4, none⟩ = some (.bool a0_4) := (blk_cell BK116.out 4).trans rfl
                  have hcz29_5 : wc.cell? ⟨gb116, 5, none⟩ = some (.bool a0_5) := (blk_cell BK116.out 5).trans rfl
                  have hcz29_6 : wc.cell? ⟨gb116, 6, none⟩ = some (.bool a0_6) := (blk_cell BK116.out 6).trans rfl
                  have hcz29_7 : wc.cell? ⟨gb116, 7, none⟩ = some (.int .i64 a0_7) := (blk_cell BK116.out 7).trans rfl
                  have hcz29_8 : wc.cell? ⟨gb116, 8, none⟩ = some (.bool a0_8) := (blk_cell BK116.out 8).trans rfl
                  have hcz29_9 : wc.cell? ⟨gb116, 9, none⟩ = some (.bool a0_9) := (blk_cell BK116.out 9).trans rfl
                  have hcz29_10 : wc.cell? ⟨gb116, 10, none⟩ = some (.bool a0_10) := (blk_cell BK116.out 10).trans rfl
                  have hcz29_11 : wc.cell? ⟨gb116, 11, none⟩ = some (.bool a0_11) := (blk_cell BK116.out 11).trans rfl
                  have hcz29_12 : wc.cell? ⟨gb116, 12, none⟩ = some (.bool a0_12) := (blk_cell BK116.out 12).trans rfl
                  have hcz29_13 : wc.cell? ⟨gb116, 13, none⟩ = some (.bool a0_13) := (blk_cell BK116.out 13).trans rfl
                  have hcz29_14 : wc.cell? ⟨gb116, 14, none⟩ = some (.bool true) := (blk_cell BK116.out 14).trans rfl
                  have hcz29_15 : wc.cell? ⟨gb116, 15, none⟩ = some (.bool a0_15) := (blk_cell BK116.out 15).trans rfl
                  have hcz29_16 : wc.cell? ⟨gb116, 16, none⟩ = some (.int .i64 a0_16) := (blk_cell BK116.out 16).trans rfl
                  have hfz29_0 := blk_frozen BK116.out 0
                  have hfz29_1 := blk_frozen BK116.out 1
                  have hfz29_2 := blk_frozen BK116.out 2
                  have hfz29_3 := blk_frozen BK116.out 3
                  have hfz29_4 := blk_frozen BK116.out 4
                  have hfz29_5 := blk_frozen BK116.out 5
                  have hfz29_6 := blk_frozen BK116.out 6
                  have hfz29_7 := blk_frozen BK116.out 7
                  have hfz29_8 := blk_frozen BK116.out 8
                  have hfz29_9 := blk_frozen BK116.out 9
                  have hfz29_10 := blk_frozen BK116.out 10
                  have hfz29_11 := blk_frozen BK116.out 11
                  have hfz29_12 := blk_frozen BK116.out 12
                  have hfz29_13 := blk_frozen BK116.out 13
                  have hfz29_14 := blk_frozen BK116.out 14
                  have hfz29_15 := blk_frozen BK116.out 15
                  have hfz29_16 := blk_frozen BK116.out 16
                  go_wp2
                  go_meet
                  case rel => exact ⟨_, (false), (by first | rfl | (simp; done) | (simp [*]; done)), H', ⟨by have := HJ1.out; have := HJ14.out; first | omega | exact Nat.le_refl _⟩, ⟨by (with_reducible repeat (first | refine blk_drewN ?_ _ | refine blk_drew ?_ | refine blk_alloc ?_ _)); exact BK116.out⟩, ⟨by (with_reducible repeat (first | refine blk_drewN ?_ _ | refine blk_drew ?_ | refine blk_alloc ?_ _)); exact BK117.out⟩, ⟨by repeat (first | (with_reducible first | exact HB.out | apply below_alloc | apply pw_below_drewN | apply below_drew1 | refine below_set ?_ GE116.out | refine below_set ?_ GE117.out) | exact HB.out)⟩⟩
                · replace c27 := Bool.eq_false_iff.mpr c27
                  subst c27
                  have H1 : (estoversref26_write.j2 kj14 a0_15) = some (r1, r2, r3, r4, r5, r6) := by rw [if_neg (show ¬ (false = true) by decide)] at H; exact H
                  clear H
                  have H := H1
                  clear H1
                  have H' := Aside0.mk H
                  clear H
                  have hnb30 := NB116_117.out
                  have hnc30 := NB117_116.out
                  have hcz31_0 : wc.cell? ⟨gb116, 0, none⟩ = some (.bool a0_0) := (blk_cell BK116.out 0).trans rfl
                  have hcz31_1 : wc.cell? ⟨gb116, 1, none⟩ = some (.bool a0_1) := (blk_cell BK116.out 1).trans rfl
                  have hcz31_2 : wc.cell? ⟨gb116, 2, none⟩ = some (.int .i64 a0_2) := (blk_cell BK116.out 2).trans rfl
                  have hcz31_3 : wc.cell? ⟨gb116, 3, none⟩ = some (.bool a0_3) := (blk_cell BK116.out 3).trans rfl
                  have hcz31_4 : wc.cell? ⟨gb116, 4, none⟩ = some (.bool a0_4) := (blk_cell BK116.out 4).trans rfl
                  have hcz31_5 : wc.cell? ⟨gb116, 5, none⟩ = some (.bool a0_5) := (blk_cell BK116.out 5).trans rfl
                  have hcz31_6 : wc.cell? ⟨gb116, 6, none⟩ = some (.bool a0_6) := (blk_cell BK116.out 6).trans rfl
                  have hcz31_7 : wc.cell? ⟨gb116, 7, none⟩ = some (.int .i64 a0_7) := (blk_cell BK116.out 7).trans rfl
                  have hcz31_8 : wc.cell? ⟨gb116, 8, none⟩ = some (.bool a0_8) := (blk_cell BK116.out 8).trans rfl
                  have hcz31_9 : wc.cell? ⟨gb116, 9, none⟩ = some (.bool a0_9) := (blk_cell BK116.out 9).trans rfl
                  have hcz31_10 : wc.cell? ⟨gb116, 10, none⟩ = some (.bool a0_10) := (blk_cell BK116.out 10).trans rfl
                  have hcz31_11 : wc.cell? ⟨gb116, 11, none⟩ = some (.bool a0_11) := (blk_cell BK116.out 11).trans rfl
                  have hcz31_12 : wc.cell? ⟨gb116, 12, none⟩ = some (.bool a0_12) := (blk_cell BK116.out 12).trans rfl
                  have hcz31_13 : wc.cell? ⟨gb116, 13, none⟩ = some (.bool a0_13) := (blk_cell BK116.out 13).trans rfl
                  have hcz31_14 : wc.cell? ⟨gb116, 14, none⟩ = some (.bool false) := (blk_cell BK116.out 14).trans rfl
                  have hcz31_15 : wc.cell? ⟨gb116, 15, none⟩ = some (.bool a0_15) := (blk_cell BK116.out 15).trans rfl
                  have hcz31_16 : wc.cell? ⟨gb116, 16, none⟩ = some (.int .i64 a0_16) := (blk_cell BK116.out 16).trans rfl
                  have hfz31_0 := blk_frozen BK116.out 0
                  have hfz31_1 := blk_frozen BK116.out 1
                  have hfz31_2 := blk_frozen BK116.out 2
                  have hfz31_3 := blk_frozen BK116.out 3
                  have hfz31_4 := blk_frozen BK116.out 4
                  have hfz31_5 := blk_frozen BK116.out 5
                  have hfz31_6 := blk_frozen BK116.out 6
                  have hfz31_7 := blk_frozen BK116.out 7
                  have hfz31_8 := blk_frozen BK116.out 8
                  have hfz31_9 := blk_frozen BK116.out 9
                  have hfz31_10 := blk_frozen BK116.out 10
                  have hfz31_11 := blk_frozen BK116.out 11
                  have hfz31_12 := blk_frozen BK116.out 12
                  have hfz31_13 := blk_frozen BK116.out 13
                  have hfz31_14 := blk_frozen BK116.out 14
                  have hfz31_15 := blk_frozen BK116.out 15
                  have hfz31_16 := blk_frozen BK116.out 16
                  go_wp2
                  go_meet
                  case rel => exact ⟨_, (a0_15), (by first | rfl | (simp; done) | (simp [*]; done)), H', ⟨by have := HJ1.out; have := HJ14.out; first | omega | exact Nat.le_refl _⟩, ⟨by (with_reducible repeat (first | refine blk_drewN ?_ _ | refine blk_drew ?_ | refine blk_alloc ?_ _)); exact BK116.out⟩, ⟨by (with_reducible repeat (first | refine blk_drewN ?_ _ | refine blk_drew ?_ | refine blk_alloc ?_ _)); exact BK117.out⟩, ⟨by repeat (first | (with_reducible first | exact HB.out | apply below_alloc | apply pw_below_drewN | apply below_drew1 | refine below_set ?_ GE116.out | refine below_set ?_ GE117.out) | exact HB.out)⟩⟩
              case rest =>
                clear HC26
                try clear c1
                try clear c2
                try clear p2
                try clear c3
                try clear c5
                try clear c6
                try clear c8
                try clear c10
                try clear c13
                try clear c16
                try clear c17
                try clear c19
                try clear c21
                try clear c23
                try clear c24
                try clear c25
                try clear c27
                try clear c28
                try clear c30
                try clear hcz14_0
                try clear hcz14_1
                try clear hcz14_2
                try clear hcz14_3
                try clear hcz14_4
                try clear hcz18_0
                try clear hcz18_1
                try clear hcz18_10
                try clear hcz18_11
                try clear hcz18_12
                try clear hcz18_13
                try clear hcz18_14
                try clear hcz18_15
                try clear hcz18_16
                try clear hcz18_2
                try clear hcz18_3
                try clear hcz18_4
                try clear hcz18_5
                try clear hcz18_6
                try clear hcz18_7
                try clear hcz18_8
                try clear hcz18_9
                try clear hcz20_0
                try clear hcz20_1
                try clear hcz20_10
                try clear hcz20_11
                try clear hcz20_12
                try clear hcz20_13
                try clear hcz20_14
                try clear hcz20_15
                try clear hcz20_16
                try clear hcz20_2
                try clear hcz20_3
                try clear hcz20_4
                try clear hcz20_5
                try clear hcz20_6
                try clear hcz20_7
                try clear hcz20_8
                try clear hcz20_9
                try clear hcz25_0
                try clear hcz25_1
                try clear hcz25_2
                try clear hcz25_3
                try clear hcz25_4
                try clear hcz29_0
                try clear hcz29_1
                try clear hcz29_10
                try clear hcz29_11
                try clear hcz29_12
                try clear hcz29_13
                try clear hcz29_14
                try clear hcz29_15
                try clear hcz29_16
                try clear hcz29_2
                try clear hcz29_3
                try clear hcz29_4
                try clear hcz29_5
                try clear hcz29_6
                try clear hcz29_7
                try clear hcz29_8
                try clear hcz29_9
                try clear hcz31_0
                try clear hcz31_1
                try clear hcz31_10
                try clear hcz31_11
                try clear hcz31_12
                try clear hcz31_13
                try clear hcz31_14
                try clear hcz31_15
                try clear hcz31_16
                try clear hcz31_2
                try clear hcz31_3
                try clear hcz31_4
                try clear hcz31_5
                try clear hcz31_6
                try clear hcz31_7
                try clear hcz31_8
                try clear hcz31_9
                try clear hcz7_0
                try clear hcz7_1
                try clear hcz7_10
                try clear hcz7_11
                try clear hcz7_12
                try clear hcz7_13
                try clear hcz7_14
                try clear hcz7_15
                try clear hcz7_16
                try clear hcz7_2
                try clear hcz7_3
                try clear hcz7_4
                try clear hcz7_5
                try clear hcz7_6
                try clear hcz7_7
                try clear hcz7_8
                try clear hcz7_9
                try clear hcz9_0
                try clear hcz9_1
                try clear hcz9_10
                try clear hcz9_11
                try clear hcz9_12
                try clear hcz9_13
                try clear hcz9_14
                try clear hcz9_15
                try clear hcz9_16
                try clear hcz9_2
                try clear hcz9_3
                try clear hcz9_4
                try clear hcz9_5
                try clear hcz9_6
                try clear hcz9_7
                try clear hcz9_8
                try clear hcz9_9
                try clear hfz14_0
                try clear hfz14_1
                try clear hfz14_2
                try clear hfz14_3
                try clear hfz14_4
                try clear hfz18_0
                try clear hfz18_1
                try clear hfz18_10
                try clear hfz18_11
                try clear hfz18_12
                try clear hfz18_13
                try clear hfz18_14
                try clear hfz18_15
                try clear hfz18_16
                try clear hfz18_2
                try clear hfz18_3
                try clear hfz18_4
                try clear hfz18_5
                try clear hfz18_6
                try clear hfz18_7
                try clear hfz18_8
                try clear hfz18_9
                try clear hfz20_0
                try clear hfz20_1
                try clear hfz20_10
                try clear hfz20_11
                try clear hfz20_12
                try clear hfz20_13
                try clear hfz20_14
                try clear hfz20_15
                try clear hfz20_16
                try clear hfz20_2
                try clear hfz20_3
                try clear hfz20_4
                try clear hfz20_5
                try clear hfz20_6
                try clear hfz20_7
                try clear hfz20_8
                try clear hfz20_9
                try clear hfz25_0
                try clear hfz25_1
                try clear hfz25_2
                try clear hfz25_3
                try clear hfz25_4
                try clear hfz29_0
                try clear hfz29_1
                try clear hfz29_10
                try clear hfz29_11
                try clear hfz29_12
                try clear hfz29_13
                try clear hfz29_14
                try clear hfz29_15
                try clear hfz29_16
                try clear hfz29_2
                try clear hfz29_3
                try clear hfz29_4
                try clear hfz29_5
                try clear hfz29_6
                try clear hfz29_7
                try clear hfz29_8
                try clear hfz29_9
                try clear hfz31_0
                try clear hfz31_1
                try clear hfz31_10
                try clear hfz31_11
                try clear hfz31_12
                try clear hfz31_13
                try clear hfz31_14
                try clear hfz31_15
                try clear hfz31_16
                try clear hfz31_2
                try clear hfz31_3
                try clear hfz31_4
                try clear hfz31_5
                try clear hfz31_6
                try clear hfz31_7
                try clear hfz31_8
                try clear hfz31_9
                try clear hfz7_0
                try clear hfz7_1
                try clear hfz7_10
                try clear hfz7_11
                try clear hfz7_12
                try clear hfz7_13
                try clear hfz7_14
                try clear hfz7_15
                try clear hfz7_16
                try clear hfz7_2
                try clear hfz7_3
                try clear hfz7_4
                try clear hfz7_5
                try clear hfz7_6
                try clear hfz7_7
                try clear hfz7_8
                try clear hfz7_9
                try clear hfz9_0
                try clear hfz9_1
                try clear hfz9_10
                try clear hfz9_11
                try clear hfz9_12
                try clear hfz9_13
                try clear hfz9_14
                try clear hfz9_15
                try clear hfz9_16
                try clear hfz9_2
                try clear hfz9_3
                try clear hfz9_4
                try clear hfz9_5
                try clear hfz9_6
                try clear hfz9_7
                try clear hfz9_8
                try clear hfz9_9
                try clear p2
                obtain ⟨kq, x29_25, rfl, HA, HJ25, BK116, BK117, HB⟩ := hcut
                cases kq with
                | zero => exact absurd HA.out (by simp [estoversref26_write.j2])
                | succ kj25 =>
                  have H := HA.out
                  clear HA
                  simp only [estoversref26_write.j2] at H
                  by_cases c32 : x29_25 = true
                  · subst c32
                    have H1 : ((estoversref26_wait.f 5).bind fun bt130 => (some (bt130.1, bt130.2.1, bt130.2.2.1, bt130.2.2.2.1, bt130.2.2.2.2.1, bt130.2.2.2.2.2))) = some (r1, r2, r3, r4, r5, r6) := by rw [if_pos rfl] at H; exact H
                    clear H
                    have H := H1
                    clear H1
                    replace H := Option.bind_eq_some_iff.mp H
                    obtain ⟨⟨t130, t131, t132, t133, t134, t135⟩, A330, H⟩ := H
                    replace H : (some (t130, t131, t132, t133, t134, t135)) = some (r1, r2, r3, r4, r5, r6) := H
                    have A33 := Aside0.mk A330
                    clear A330
                    simp only [Option.some.injEq, Prod.mk.injEq] at H
                    obtain ⟨rfl, rfl, rfl, rfl, rfl, rfl⟩ := H
                    go_wp2_with (first | ((with_reducible refine gate_callee (f := 24) rfl ?_); refine goesL_ (some 30) rfl rfl Try.func24 (by kernel_rfl) rfl #[.int .i64 5] rfl (by (try simp only [List.map_toArray, List.map_cons, List.map_nil]); first | done | rfl | (simp only [List.length_drop, List.length_take]; rfl)) ?_; (with_reducible refine (estoversref26_wait.calls 5 t130 t131 t132 t133 t134 t135 _ A33.out).mono ?_); rintro e w34 ⟨rfl, hb⟩; refine ⟨_, rfl, ?_⟩; have n0_ := Aside0.mk (blk_below (g := gb116) (o := .cells #[.bool a0_0, .bool a0_1, .int .i64 a0_2, .bool a0_3, .bool a0_4, .bool a0_5, .bool a0_6, .int .i64 a0_7, .bool a0_8, .bool a0_9, .bool a0_10, .bool a0_11, .bool a0_12, .bool a0_13, .bool a0_14, .bool a0_15, .int .i64 a0_16] 23 (0, 0)) (by (with_reducible repeat (first | refine blk_drewN ?_ _ | refine blk_drew ?_ | refine blk_alloc ?_ _)); exact BK116.out) hb); have n1_ := Aside0.mk (blk_below (g := gb117) (o := .cells #[.int .i64 0, .int .i64 0, .int .i64 0, .int .i64 0, .int .i64 0] 28 (0, 0)) (by (with_reducible repeat (first | refine blk_drewN ?_ _ | refine blk_drew ?_ | refine blk_alloc ?_ _)); exact BK117.out) hb); have n2_ := Aside0.mk (below_step (by repeat (first | (with_reducible first | exact HB.out | apply below_alloc | apply pw_below_drewN | apply below_drew1 | refine below_set ?_ GE116.out | refine below_set ?_ GE117.out) | exact HB.out)) hb); clear BK116; clear BK117; clear HB; have BK116 := n0_; have BK117 := n1_; have HB := n2_; clear n0_ n1_ n2_; (try clear hb); (try clear hb2); (try clear hk); (try clear hi); have hnb35 := NB117_116.out; have hnc35 := NB116_117.out; have hcz36_0 : w34.cell? ⟨gb117, 0, none⟩ = some (.int .i64 0) := (blk_cell BK117.out 0).trans rfl; have hcz36_1 : w34.cell? ⟨gb117, 1, none⟩ = some (.int .i64 0) := (blk_cell BK117.out 1).trans rfl; have hcz36_2 : w34.cell? ⟨gb117, 2, none⟩ = some (.int .i64 0) := (blk_cell BK117.out 2).trans rfl; have hcz36_3 : w34.cell? ⟨gb117, 3, none⟩ = some (.int .i64 0) := (blk_cell BK117.out 3).trans rfl; have hcz36_4 : w34.cell? ⟨gb117, 4, none⟩ = some (.int .i64 0) := (blk_cell BK117.out 4).trans rfl; have hfz36_0 := blk_frozen BK117.out 0; have hfz36_1 := blk_frozen BK117.out 1; have hfz36_2 := blk_frozen BK117.out 2; have hfz36_3 := blk_frozen BK117.out 3; have hfz36_4 := blk_frozen BK117.out 4))
                    refine bodyPost_ret (results_ct rfl _ _ gb117 28 #[.int .i64 t130, .int .i64 t131, .int .i64 t132, .int .i64 t133, .int .i64 t134] (0, 0) _ rfl (by (with_reducible repeat (first | refine blk_drewN ?_ _ | refine blk_drew ?_ | refine blk_alloc ?_ _)); refine blk_put (cs := #[.int .i64 t130, .int .i64 t131, .int .i64 t132, .int .i64 t133, .int .i64 0]) ?_ 4 _ rfl; (with_reducible repeat (first | refine blk_drewN ?_ _ | refine blk_drew ?_ | refine blk_alloc ?_ _)); refine blk_put (cs := #[.int .i64 t130, .int .i64 t131, .int .i64 t132, .int .i64 0, .int .i64 0]) ?_ 3 _ rfl; (with_reducible repeat (first | refine blk_drewN ?_ _ | refine blk_drew ?_ | refine blk_alloc ?_ _)); refine blk_put (cs := #[.int .i64 t130, .int .i64 t131, .int .i64 0, .int .i64 0, .int .i64 0]) ?_ 2 _ rfl; (with_reducible repeat (first | refine blk_drewN ?_ _ | refine blk_drew ?_ | refine blk_alloc ?_ _)); refine blk_put (cs := #[.int .i64 t130, .int .i64 0, .int .i64 0, .int .i64 0, .int .i64 0]) ?_ 1 _ rfl; (with_reducible repeat (first | refine blk_drewN ?_ _ | refine blk_drew ?_ | refine blk_alloc ?_ _)); refine blk_put (cs := #[.int .i64 0, .int .i64 0, .int .i64 0, .int .i64 0, .int .i64 0]) ?_ 0 _ rfl; (with_reducible repeat (first | refine blk_drewN ?_ _ | refine blk_drew ?_ | refine blk_alloc ?_ _)); exact BK117.out) Try.underlying28 rfl (by kernel_rfl)) rfl ?_
                    exact ⟨by first | rfl | (simp [errW_none, errW_some] <;> rfl) | (simp [*, errW_none, errW_some] <;> rfl), by repeat (first | (with_reducible first | exact HB.out | apply below_alloc | apply pw_below_drewN | apply below_drew1 | refine below_set ?_ GE116.out | refine below_set ?_ GE117.out) | exact HB.out)⟩
                  · replace c32 := Bool.eq_false_iff.mpr c32
                    subst c32
                    have H1 : ((estoversref26_plan.f 7 0 0).bind fun bt136 => (some (bt136.1, bt136.2.1, bt136.2.2.1, bt136.2.2.2.1, bt136.2.2.2.2.1, bt136.2.2.2.2.2))) = some (r1, r2, r3, r4, r5, r6) := by rw [if_neg (show ¬ (false = true) by decide)] at H; exact H
                    clear H
                    have H := H1
                    clear H1
                    replace H := Option.bind_eq_some_iff.mp H
                    obtain ⟨⟨t136, t137, t138, t139, t140, t141⟩, A370, H⟩ := H
                    replace H : (some (t136, t137, t138, t139, t140, t141)) = some (r1, r2, r3, r4, r5, r6) := H
                    have A37 := Aside0.mk A370
                    clear A370
                    simp only [Option.some.injEq, Prod.mk.injEq] at H
                    obtain ⟨rfl, rfl, rfl, rfl, rfl, rfl⟩ := H
                    go_wp2_with (first | ((with_reducible refine gate_callee (f := 23) rfl ?_); refine goesL_ (some 33) rfl rfl Try.func23 (by kernel_rfl) rfl #[.int .i64 7, .int .i64 0, .int .i64 0] rfl (by (try simp only [List.map_toArray, List.map_cons, List.map_nil]); first | done | rfl | (simp only [List.length_drop, List.length_take]; rfl)) ?_; (with_reducible refine (estoversref26_plan.calls 7 0 0 t136 t137 t138 t139 t140 t141 _ A37.out).mono ?_); rintro e w38 ⟨rfl, hb⟩; refine ⟨_, rfl, ?_⟩; have n0_ := Aside0.mk (blk_below (g := gb116) (o := .cells #[.bool a0_0, .bool a0_1, .int .i64 a0_2, .bool a0_3, .bool a0_4, .bool a0_5, .bool a0_6, .int .i64 a0_7, .bool a0_8, .bool a0_9, .bool a0_10, .bool a0_11, .bool a0_12, .bool a0_13, .bool a0_14, .bool a0_15, .int .i64 a0_16] 23 (0, 0)) (by (with_reducible repeat (first | refine blk_drewN ?_ _ | refine blk_drew ?_ | refine blk_alloc ?_ _)); exact BK116.out) hb); have n1_ := Aside0.mk (blk_below (g := gb117) (o := .cells #[.int .i64 0, .int .i64 0, .int .i64 0, .int .i64 0, .int .i64 0] 28 (0, 0)) (by (with_reducible repeat (first | refine blk_drewN ?_ _ | refine blk_drew ?_ | refine blk_alloc ?_ _)); exact BK117.out) hb); have n2_ := Aside0.mk (below_step (by repeat (first | (with_reducible first | exact HB.out | apply below_alloc | apply pw_below_drewN | apply below_drew1 | refine below_set ?_ GE116.out | refine below_set ?_ GE117.out) | exact HB.out)) hb); clear BK116; clear BK117; clear HB; have BK116 := n0_; have BK117 := n1_; have HB := n2_; clear n0_ n1_ n2_; (try clear hb); (try clear hb2); (try clear hk); (try clear hi); have hnb39 := NB117_116.out; have hnc39 := NB116_117.out; have hcz40_0 : w38.cell? ⟨gb117, 0, none⟩ = some (.int .i64 0) := (blk_cell BK117.out 0).trans rfl; have hcz40_1 : w38.cell? ⟨gb117, 1, none⟩ = some (.int .i64 0) := (blk_cell BK117.out 1).trans rfl; have hcz40_2 : w38.cell? ⟨gb117, 2, none⟩ = some (.int .i64 0) := (blk_cell BK117.out 2).trans rfl; have hcz40_3 : w38.cell? ⟨gb117, 3, none⟩ = some (.int .i64 0) := (blk_cell BK117.out 3).trans rfl; have hcz40_4 : w38.cell? ⟨gb117, 4, none⟩ = some (.int .i64 0) := (blk_cell BK117.out 4).trans rfl; have hfz40_0 := blk_frozen BK117.out 0; have hfz40_1 := blk_frozen BK117.out 1; have hfz40_2 := blk_frozen BK117.out 2; have hfz40_3 := blk_frozen BK117.out 3; have hfz40_4 := blk_frozen BK117.out 4))
                    refine bodyPost_ret (results_ct rfl _ _ gb117 28 #[.int .i64 t136, .int .i64 t137, .int .i64 t138, .int .i64 t139, .int .i64 t140] (0, 0) _ rfl (by (with_reducible repeat (first | refine blk_drewN ?_ _ | refine blk_drew ?_ | refine blk_alloc ?_ _)); refine blk_put (cs := #[.int .i64 t136, .int .i64 t137, .int .i64 t138, .int .i64 t139, .int .i64 0]) ?_ 4 _ rfl; (with_reducible repeat (first | refine blk_drewN ?_ _ | refine blk_drew ?_ | refine blk_alloc ?_ _)); refine blk_put (cs := #[.int .i64 t136, .int .i64 t137, .int .i64 t138, .int .i64 0, .int .i64 0]) ?_ 3 _ rfl; (with_reducible repeat (first | refine blk_drewN ?_ _ | refine blk_drew ?_ | refine blk_alloc ?_ _)); refine blk_put (cs := #[.int .i64 t136, .int .i64 t137, .int .i64 0, .int .i64 0, .int .i64 0]) ?_ 2 _ rfl; (with_reducible repeat (first | refine blk_drewN ?_ _ | refine blk_drew ?_ | refine blk_alloc ?_ _)); refine blk_put (cs := #[.int .i64 t136, .int .i64 0, .int .i64 0, .int .i64 0, .int .i64 0]) ?_ 1 _ rfl; (with_reducible repeat (first | refine blk_drewN ?_ _ | refine blk_drew ?_ | refine blk_alloc ?_ _)); refine blk_put (cs := #[.int .i64 0, .int .i64 0, .int .i64 0, .int .i64 0, .int .i64 0]) ?_ 0 _ rfl; (with_reducible repeat (first | refine blk_drewN ?_ _ | refine blk_drew ?_ | refine blk_alloc ?_ _)); exact BK117.out) Try.underlying28 rfl (by kernel_rfl)) rfl ?_
                    exact ⟨by first | rfl | (simp [errW_none, errW_some] <;> rfl) | (simp [*, errW_none, errW_some] <;> rfl), by repeat (first | (with_reducible first | exact HB.out | apply below_alloc | apply pw_below_drewN | apply below_drew1 | refine below_set ?_ GE116.out | refine below_set ?_ GE117.out) | exact HB.out)⟩

end Go.Proofs.Ytfobedaepflidaa.F

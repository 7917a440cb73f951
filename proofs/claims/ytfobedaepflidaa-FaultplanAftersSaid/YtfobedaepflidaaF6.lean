-- Written by a program of this session (own_print.py) that runs the kit's printer. Lean checks it.
import Derived.Test.YtfobedaepflidaaF0
import Derived.Test.YtfobedaepflidaaF4
import Derived.Test.YtfobedaepflidaaF5
namespace Go.Proofs.Ytfobedaepflidaa.F
open Go.RowKit Go.Proofs.YtfobedaepflidaaW.PrintWords Go.Proofs.YtfobedaepflidaaW.PrintLast Go.Proofs.YtfobedaepflidaaW.PrintMore
attribute [local go_sem] max2_int min2_int max_two min_two max_three min_three max_four min_four   -- for this text's walks alone
set_option linter.unusedVariables false
set_option linter.unusedSimpArgs false

attribute [local go_sem ↓ high] ld23a sv23a
attribute [local go_sem high] ld23 sv23
/-! ### estoversref26_Check: function 11 -/
mutual
def estoversref26_Check.j0 : Nat → Bool → Bool → Bool → Int → Bool → Bool → Bool → Bool → Int → Bool → Bool → Bool → Bool → Bool → Bool → Bool → Bool → Int → Option (Int)
  | 0, _, _, _, _, _, _, _, _, _, _, _, _, _, _, _, _, _, _ => none
  | k + 1, x10, x105000, x105001, x105002, x105003, x105004, x105005, x105006, x105007, x105008, x105009, x105010, x105011, x105012, x105013, x105014, x105015, x105016 => if x10 = true then (some 1) else (if x105016 < 0 then (estoversref26_Check.j1 k true x105000 x105001 x105002 x105003 x105004 x105005 x105006 x105007 x105008 x105009 x105010 x105011 x105012 x105013 x105014 x105015 x105016) else (estoversref26_Check.j1 k (decide (x105016 > 2)) x105000 x105001 x105002 x105003 x105004 x105005 x105006 x105007 x105008 x105009 x105010 x105011 x105012 x105013 x105014 x105015 x105016))
def estoversref26_Check.j1 : Nat → Bool → Bool → Bool → Int → Bool → Bool → Bool → Bool → Int → Bool → Bool → Bool → Bool → Bool → Bool → Bool → Bool → Int → Option (Int)
  | 0, _, _, _, _, _, _, _, _, _, _, _, _, _, _, _, _, _, _ => none
  | k + 1, x18, x105000, x105001, x105002, x105003, x105004, x105005, x105006, x105007, x105008, x105009, x105010, x105011, x105012, x105013, x105014, x105015, x105016 => if x18 = true then (some 2) else (if x105001 = true then (if x105002 = 1 then (estoversref26_Check.j2 k false x105000 x105001 x105002 x105003 x105004 x105005 x105006 x105007 x105008 x105009 x105010 x105011 x105012 x105013 x105014 x105015 x105016) else ((estoversref26_writes.f x105000 x105001 x105002 x105003 x105004 x105005 x105006 x105007 x105008 x105009 x105010 x105011 x105012 x105013 x105014 x105015 x105016).bind fun t105 => (estoversref26_Check.j2 k (!t105) x105000 x105001 x105002 x105003 x105004 x105005 x105006 x105007 x105008 x105009 x105010 x105011 x105012 x105013 x105014 x105015 x105016))) else (some 0))
def estoversref26_Check.j2 : Nat → Bool → Bool → Bool → Int → Bool → Bool → Bool → Bool → Int → Bool → Bool → Bool → Bool → Bool → Bool → Bool → Bool → Int → Option (Int)
  | 0, _, _, _, _, _, _, _, _, _, _, _, _, _, _, _, _, _, _ => none
  | k + 1, x29, x105000, x105001, x105002, x105003, x105004, x105005, x105006, x105007, x105008, x105009, x105010, x105011, x105012, x105013, x105014, x105015, x105016 => if x29 = true then (some 1) else ((estoversref26_form.f x105000 x105001 x105002 x105003 x105004 x105005 x105006 x105007 x105008 x105009 x105010 x105011 x105012 x105013 x105014 x105015 x105016).bind fun t106 => (if t106 = true then (some 0) else (some 3)))
end
def estoversref26_Check.f (k : Nat) (a0_0 : Bool) (a0_1 : Bool) (a0_2 : Int) (a0_3 : Bool) (a0_4 : Bool) (a0_5 : Bool) (a0_6 : Bool) (a0_7 : Int) (a0_8 : Bool) (a0_9 : Bool) (a0_10 : Bool) (a0_11 : Bool) (a0_12 : Bool) (a0_13 : Bool) (a0_14 : Bool) (a0_15 : Bool) (a0_16 : Int) : Option (Int) := if a0_7 < 0 then (estoversref26_Check.j0 k true a0_0 a0_1 a0_2 a0_3 a0_4 a0_5 a0_6 a0_7 a0_8 a0_9 a0_10 a0_11 a0_12 a0_13 a0_14 a0_15 a0_16) else (estoversref26_Check.j0 k (decide (a0_7 > 3)) a0_0 a0_1 a0_2 a0_3 a0_4 a0_5 a0_6 a0_7 a0_8 a0_9 a0_10 a0_11 a0_12 a0_13 a0_14 a0_15 a0_16)
theorem estoversref26_Check.mono_l : ∀ k, (∀ y0 y1 y2 y3 y4 y5 y6 y7 y8 y9 y10 y11 y12 y13 y14 y15 y16 y17, LeO (estoversref26_Check.j0 k y0 y1 y2 y3 y4 y5 y6 y7 y8 y9 y10 y11 y12 y13 y14 y15 y16 y17) (estoversref26_Check.j0 (k + 1) y0 y1 y2 y3 y4 y5 y6 y7 y8 y9 y10 y11 y12 y13 y14 y15 y16 y17)) ∧ (∀ y0 y1 y2 y3 y4 y5 y6 y7 y8 y9 y10 y11 y12 y13 y14 y15 y16 y17, LeO (estoversref26_Check.j1 k y0 y1 y2 y3 y4 y5 y6 y7 y8 y9 y10 y11 y12 y13 y14 y15 y16 y17) (estoversref26_Check.j1 (k + 1) y0 y1 y2 y3 y4 y5 y6 y7 y8 y9 y10 y11 y12 y13 y14 y15 y16 y17)) ∧ (∀ y0 y1 y2 y3 y4 y5 y6 y7 y8 y9 y10 y11 y12 y13 y14 y15 y16 y17, LeO (estoversref26_Check.j2 k y0 y1 y2 y3 y4 y5 y6 y7 y8 y9 y10 y11 y12 y13 y14 y15 y16 y17) (estoversref26_Check.j2 (k + 1) y0 y1 y2 y3 y4 y5 y6 y7 y8 y9 y10 y11 y12 y13 y14 y15 y16 y17))
  | 0 => ⟨fun _ _ _ _ _ _ _ _ _ _ _ _ _ _ _ _ _ _ r h => by simp [estoversref26_Check.j0] at h, fun _ _ _ _ _ _ _ _ _ _ _ _ _ _ _ _ _ _ r h => by simp [estoversref26_Check.j1] at h, fun _ _ _ _ _ _ _ _ _ _ _ _ _ _ _ _ _ _ r h => by simp [estoversref26_Check.j2] at h⟩
  | k + 1 => by
    obtain ⟨ih0, ih1, ih2⟩ := estoversref26_Check.mono_l k
    refine ⟨?_, ?_, ?_⟩
    · intro y0 y1 y2 y3 y4 y5 y6 y7 y8 y9 y10 y11 y12 y13 y14 y15 y16 y17
      unfold estoversref26_Check.j0
      repeat' first
      | (with_reducible exact ih0 _ _ _ _ _ _ _ _ _ _ _ _ _ _ _ _ _ _)
      | (with_reducible exact ih1 _ _ _ _ _ _ _ _ _ _ _ _ _ _ _ _ _ _)
      | (with_reducible exact ih2 _ _ _ _ _ _ _ _ _ _ _ _ _ _ _ _ _ _)
      | (with_reducible exact LeO.refl _)
      | (with_reducible exact LeO.none _)
      | (with_reducible refine LeO.ite ?_ ?_)
      | (with_reducible refine LeO.bind ?_ (fun _ => ?_))
      | exact ih0 _ _ _ _ _ _ _ _ _ _ _ _ _ _ _ _ _ _
      | exact ih1 _ _ _ _ _ _ _ _ _ _ _ _ _ _ _ _ _ _
      | exact ih2 _ _ _ _ _ _ _ _ _ _ _ _ _ _ _ _ _ _
      | exact LeO.none _
      | refine LeO.ite ?_ ?_
      | refine LeO.bind ?_ (fun _ => ?_)
    · intro y0 y1 y2 y3 y4 y5 y6 y7 y8 y9 y10 y11 y12 y13 y14 y15 y16 y17
      unfold estoversref26_Check.j1
      repeat' first
      | (with_reducible exact ih0 _ _ _ _ _ _ _ _ _ _ _ _ _ _ _ _ _ _)
      | (with_reducible exact ih1 _ _ _ _ _ _ _ _ _ _ _ _ _ _ _ _ _ _)
      | (with_reducible exact ih2 _ _ _ _ _ _ _ _ _ _ _ _ _ _ _ _ _ _)
      | (with_reducible exact LeO.refl _)
      | (with_reducible exact LeO.none _)
      | (with_reducible refine LeO.ite ?_ ?_)
      | (with_reducible refine LeO.bind ?_ (fun _ => ?_))
      | exact ih0 _ _ _ _ _ _ _ _ _ _ _ _ _ _ _ _ _ _
      | exact ih1 _ _ _ _ _ _ _ _ _ _ _ _ _ _ _ _ _ _
      | exact ih2 _ _ _ _ _ _ _ _ _ _ _ _ _ _ _ _ _ _
      | exact LeO.none _
      | refine LeO.ite ?_ ?_
      | refine LeO.bind ?_ (fun _ => ?_)
    · intro y0 y1 y2 y3 y4 y5 y6 y7 y8 y9 y10 y11 y12 y13 y14 y15 y16 y17
      unfold estoversref26_Check.j2
      repeat' first
      | (with_reducible exact ih0 _ _ _ _ _ _ _ _ _ _ _ _ _ _ _ _ _ _)
      | (with_reducible exact ih1 _ _ _ _ _ _ _ _ _ _ _ _ _ _ _ _ _ _)
      | (with_reducible exact ih2 _ _ _ _ _ _ _ _ _ _ _ _ _ _ _ _ _ _)
      | (with_reducible exact LeO.refl _)
      | (with_reducible exact LeO.none _)
      | (with_reducible refine LeO.ite ?_ ?_)
      | (with_reducible refine LeO.bind ?_ (fun _ => ?_))
      | exact ih0 _ _ _ _ _ _ _ _ _ _ _ _ _ _ _ _ _ _
      | exact ih1 _ _ _ _ _ _ _ _ _ _ _ _ _ _ _ _ _ _
      | exact ih2 _ _ _ _ _ _ _ _ _ _ _ _ _ _ _ _ _ _
      | exact LeO.none _
      | refine LeO.ite ?_ ?_
      | refine LeO.bind ?_ (fun _ => ?_)
theorem estoversref26_Check.mono : ∀ a0 a1 a2 a3 a4 a5 a6 a7 a8 a9 a10 a11 a12 a13 a14 a15 a16 k, LeO (estoversref26_Check.f k a0 a1 a2 a3 a4 a5 a6 a7 a8 a9 a10 a11 a12 a13 a14 a15 a16) (estoversref26_Check.f (k + 1) a0 a1 a2 a3 a4 a5 a6 a7 a8 a9 a10 a11 a12 a13 a14 a15 a16) := by
  intro a0 a1 a2 a3 a4 a5 a6 a7 a8 a9 a10 a11 a12 a13 a14 a15 a16 k
  obtain ⟨ih0, ih1, ih2⟩ := estoversref26_Check.mono_l k
  unfold estoversref26_Check.f
  repeat' first
      | (with_reducible exact ih0 _ _ _ _ _ _ _ _ _ _ _ _ _ _ _ _ _ _)
      | (with_reducible exact ih1 _ _ _ _ _ _ _ _ _ _ _ _ _ _ _ _ _ _)
      | (with_reducible exact ih2 _ _ _ _ _ _ _ _ _ _ _ _ _ _ _ _ _ _)
      | (with_reducible exact LeO.refl _)
      | (with_reducible exact LeO.none _)
      | (with_reducible refine LeO.ite ?_ ?_)
      | (with_reducible refine LeO.bind ?_ (fun _ => ?_))
      | exact ih0 _ _ _ _ _ _ _ _ _ _ _ _ _ _ _ _ _ _
      | exact ih1 _ _ _ _ _ _ _ _ _ _ _ _ _ _ _ _ _ _
      | exact ih2 _ _ _ _ _ _ _ _ _ _ _ _ _ _ _ _ _ _
      | exact LeO.none _
      | refine LeO.ite ?_ ?_
      | refine LeO.bind ?_ (fun _ => ?_)
set_option maxHeartbeats 8000000 in
set_option maxRecDepth 100000 in
theorem estoversref26_Check.calls (k : Nat) (a0_0 : Bool) (a0_1 : Bool) (a0_2 : Int) (a0_3 : Bool) (a0_4 : Bool) (a0_5 : Bool) (a0_6 : Bool) (a0_7 : Int) (a0_8 : Bool) (a0_9 : Bool) (a0_10 : Bool) (a0_11 : Bool) (a0_12 : Bool) (a0_13 : Bool) (a0_14 : Bool) (a0_15 : Bool) (a0_16 : Int) (r : Int) (w : World) (h : estoversref26_Check.f k a0_0 a0_1 a0_2 a0_3 a0_4 a0_5 a0_6 a0_7 a0_8 a0_9 a0_10 a0_11 a0_12 a0_13 a0_14 a0_15 a0_16 = some r) :
    Calls Try.prog 11 #[.agg #[.bool a0_0, .bool a0_1, .int .i64 a0_2, .bool a0_3, .bool a0_4, .bool a0_5, .bool a0_6, .int .i64 a0_7, .bool a0_8, .bool a0_9, .bool a0_10, .bool a0_11, .bool a0_12, .bool a0_13, .bool a0_14, .bool a0_15, .int .i64 a0_16]] w fun e w' => e = .returned (.int .i64 r) ∧ Below w.heap.size w w' := by
  have hu23 := Try.underlying23
  have HB := Aside0.mk (Below.refl w.heap.size w)
  have H : (if a0_7 < 0 then (estoversref26_Check.j0 k true a0_0 a0_1 a0_2 a0_3 a0_4 a0_5 a0_6 a0_7 a0_8 a0_9 a0_10 a0_11 a0_12 a0_13 a0_14 a0_15 a0_16) else (estoversref26_Check.j0 k (decide (a0_7 > 3)) a0_0 a0_1 a0_2 a0_3 a0_4 a0_5 a0_6 a0_7 a0_8 a0_9 a0_10 a0_11 a0_12 a0_13 a0_14 a0_15 a0_16)) = some r := h
  clear h
  have HC2 := Aside0.mk H
  clear H
  go_enter Try.func11, Try.ntmps11
  go_upto_region 1 with (first | ((with_reducible refine gate_dst (N := 1) rfl ?_); refine box_event ?hg (N := 1) ?hd (cs := #[.bool a0_0, .bool a0_1, .int .i64 a0_2, .bool a0_3, .bool a0_4, .bool a0_5, .bool a0_6, .int .i64 a0_7, .bool a0_8, .bool a0_9, .bool a0_10, .bool a0_11, .bool a0_12, .bool a0_13, .bool a0_14, .bool a0_15, .int .i64 a0_16]) (t := 23) ?hr ?_; (case hd => rfl); (case hg => rfl); (case hr => first | (go_simp; done) | (go_simp; rfl)); intro gb104 hg w3 hbox hb; have n0_ := Aside0.mk (below_step (by repeat (first | (with_reducible first | exact HB.out | apply below_alloc | apply pw_below_drewN | apply below_drew1) | exact HB.out)) hb); have n1_ := Aside0.mk (hbox); have n2_ := Aside0.mk ((by rw [hg]; exact (below_size (by repeat (first | (with_reducible first | exact HB.out | apply below_alloc | apply pw_below_drewN | apply below_drew1) | exact HB.out))) : w.heap.size ≤ gb104)); have n3_ := Aside0.mk ((by rw [hg]; exact (below_size (by repeat (first | (with_reducible first | exact HB.out | apply below_alloc | apply pw_below_drewN | apply below_drew1) | exact HB.out))) : w.heap.size ≤ gb104)); clear HB; have HB := n0_; have BK104 := n1_; have GW104 := n2_; have GE104 := n3_; clear n0_ n1_ n2_ n3_; clear hb hbox hg))
  (try simp only [Act.put, List.setIfInBounds_toArray, List.set_cons_zero, List.set_cons_succ])
  go_cut [10] (fun v10 wc => ∃ (kq : Nat) (x10_1 : Bool), v10 = .bool x10_1 ∧ Aside0 (estoversref26_Check.j0 kq x10_1 a0_0 a0_1 a0_2 a0_3 a0_4 a0_5 a0_6 a0_7 a0_8 a0_9 a0_10 a0_11 a0_12 a0_13 a0_14 a0_15 a0_16 = some r) ∧ Aside0 (kq ≤ k) ∧ Aside0 (wc.heap[gb104]? = some (.cells #[.bool a0_0, .bool a0_1, .int .i64 a0_2, .bool a0_3, .bool a0_4, .bool a0_5, .bool a0_6, .int .i64 a0_7, .bool a0_8, .bool a0_9, .bool a0_10, .bool a0_11, .bool a0_12, .bool a0_13, .bool a0_14, .bool a0_15, .int .i64 a0_16] 23 (0, 0))) ∧ Aside0 (Below w.heap.size w wc))
  case first =>
    have H := HC2.out
    clear HC2
    by_cases c4 : a0_7 < 0
    · rw [if_pos c4] at H
      have c4b0 : decide (a0_7 < 0) = true := decide_eq_true c4
      clear c4
      (first | rw [c4b0] | (simp only [i64_w, i32_w]; rw [c4b0]) | skip)
      have H' := Aside0.mk H
      clear H
      have hcz5_0 : w3.cell? ⟨gb104, 0, none⟩ = some (.bool a0_0) := (blk_cell BK104.out 0).trans rfl
      have hcz5_1 : w3.cell? ⟨gb104, 1, none⟩ = some (.bool a0_1) := (blk_cell BK104.out 1).trans rfl
      have hcz5_2 : w3.cell? ⟨gb104, 2, none⟩ = some (.int .i64 a0_2) := (blk_cell BK104.out 2).trans rfl
      have hcz5_3 : w3.cell? ⟨gb104, 3, none⟩ = some (.bool a0_3) := (blk_cell BK104.out 3).trans rfl
      have hcz5_4 : w3.cell? ⟨gb104, 4, none⟩ = some (.bool a0_4) := (blk_cell BK104.out 4).trans rfl
      have hcz5_5 : w3.cell? ⟨gb104, 5, none⟩ = some (.bool a0_5) := (blk_cell BK104.out 5).trans rfl
      have hcz5_6 : w3.cell? ⟨gb104, 6, none⟩ = some (.bool a0_6) := (blk_cell BK104.out 6).trans rfl
      have hcz5_7 : w3.cell? ⟨gb104, 7, none⟩ = some (.int .i64 a0_7) := (blk_cell BK104.out 7).trans rfl
      have hcz5_8 : w3.cell? ⟨gb104, 8, none⟩ = some (.bool a0_8) := (blk_cell BK104.out 8).trans rfl
      have hcz5_9 : w3.cell? ⟨gb104, 9, none⟩ = some (.bool a0_9) := (blk_cell BK104.out 9).trans rfl
      have hcz5_10 : w3.cell? ⟨gb104, 10, none⟩ = some (.bool a0_10) := (blk_cell BK104.out 10).trans rfl
      have hcz5_11 : w3.cell? ⟨gb104, 11, none⟩ = some (.bool a0_11) := (blk_cell BK104.out 11).trans rfl
      have hcz5_12 : w3.cell? ⟨gb104, 12, none⟩ = some (.bool a0_12) := (blk_cell BK104.out 12).trans rfl
      have hcz5_13 : w3.cell? ⟨gb104, 13, none⟩ = some (.bool a0_13) := (blk_cell BK104.out 13).trans rfl
      have hcz5_14 : w3.cell? ⟨gb104, 14, none⟩ = some (.bool a0_14) := (blk_cell BK104.out 14).trans rfl
      have hcz5_15 : w3.cell? ⟨gb104, 15, none⟩ = some (.bool a0_15) := (blk_cell BK104.out 15).trans rfl
      have hcz5_16 : w3.cell? ⟨gb104, 16, none⟩ = some (.int .i64 a0_16) := (blk_cell BK104.out 16).trans rfl
      have hfz5_0 := blk_frozen BK104.out 0
      have hfz5_1 := blk_frozen BK104.out 1
      have hfz5_2 := blk_frozen BK104.out 2
      have hfz5_3 := blk_frozen BK104.out 3
      have hfz5_4 := blk_frozen BK104.out 4
      have hfz5_5 := blk_frozen BK104.out 5
      have hfz5_6 := blk_frozen BK104.out 6
      have hfz5_7 := blk_frozen BK104.out 7
      have hfz5_8 := blk_frozen BK104.out 8
      have hfz5_9 := blk_frozen BK104.out 9
      have hfz5_10 := blk_frozen BK104.out 10
      have hfz5_11 := blk_frozen BK104.out 11
      have hfz5_12 := blk_frozen BK104.out 12
      have hfz5_13 := blk_frozen BK104.out 13
      have hfz5_14 := blk_frozen BK104.out 14
      have hfz5_15 := blk_frozen BK104.out 15
      have hfz5_16 := blk_frozen BK104.out 16
      go_wp2
      go_meet
      case rel => exact ⟨_, (true), (by first | rfl | (simp; done) | (simp [*]; done)), H', ⟨by first | omega | exact Nat.le_refl _⟩, ⟨by (with_reducible repeat (first | refine blk_drewN ?_ _ | refine blk_drew ?_ | refine blk_alloc ?_ _)); exact BK104.out⟩, ⟨by repeat (first | (with_reducible first | exact HB.out | apply below_alloc | apply pw_below_drewN | apply below_drew1 | refine below_set ?_ GE104.out) | exact HB.out)⟩⟩
    · rw [if_neg c4] at H
      have c4b0 : decide (a0_7 < 0) = false := decide_eq_false c4
      clear c4
      (first | rw [c4b0] | (simp only [i64_w, i32_w]; rw [c4b0]) | skip)
      have H' := Aside0.mk H
      clear H
      have hcz6_0 : w3.cell? ⟨gb104, 0, none⟩ = some (.bool a0_0) := (blk_cell BK104.out 0).trans rfl
      have hcz6_1 : w3.cell? ⟨gb104, 1, none⟩ = some (.bool a0_1) := (blk_cell BK104.out 1).trans rfl
      have hcz6_2 : w3.cell? ⟨gb104, 2, none⟩ = some (.int .i64 a0_2) := (blk_cell BK104.out 2).trans rfl
      have hcz6_3 : w3.cell? ⟨gb104, 3, none⟩ = some (.bool a0_3) := (blk_cell BK104.out 3).trans rfl
      have hcz6_4 : w3.cell? ⟨gb104, 4, none⟩ = some (.bool a0_4) := (blk_cell BK104.out 4).trans rfl
      have hcz6_5 : w3.cell? ⟨gb104, 5, none⟩ = some (.bool a0_5) := (blk_cell BK104.out 5).trans rfl
      have hcz6_6 : w3.cell? ⟨gb104, 6, none⟩ = some (.bool a0_6) := (blk_cell BK104.out 6).trans rfl
      have hcz6_7 : w3.cell? ⟨gb104, 7, none⟩ = some (.int .i64 a0_7) := (blk_cell BK104.out 7).trans rfl
      have hcz6_8 : w3.cell? ⟨gb104, 8, none⟩ = some (.bool a0_8) := (blk_cell BK104.out 8).trans rfl
      have hcz6_9 : w3.cell? ⟨gb104, 9, none⟩ = some (.bool a0_9) := (blk_cell BK104.out 9).trans rfl
      have hcz6_10 : w3.cell? ⟨gb104, 10, none⟩ = some (.bool a0_10) := (blk_cell BK104.out 10).trans rfl
      have hcz6_11 : w3.cell? ⟨gb104, 11, none⟩ = some (.bool a0_11) := (blk_cell BK104.out 11).trans rfl
      have hcz6_12 : w3.cell? ⟨gb104, 12, none⟩ = some (.bool a0_12) := (blk_cell BK104.out 12).trans rfl
      have hcz6_13 : w3.cell? ⟨gb104, 13, none⟩ = some (.bool a0_13) := (blk_cell BK104.out 13).trans rfl
      have hcz6_14 : w3.cell? ⟨gb104, 14, none⟩ = some (.bool a0_14) := (blk_cell BK104.out 14).trans rfl
      have hcz6_15 : w3.cell? ⟨gb104, 15, none⟩ = some (.bool a0_15) := (blk_cell BK104.out 15).trans rfl
      have hcz6_16 : w3.cell? ⟨gb104, 16, none⟩ = some (.int .i64 a0_16) := (blk_cell BK104.out 16).trans rfl
      have hfz6_0 := blk_frozen BK104.out 0
      have hfz6_1 := blk_frozen BK104.out 1
      have hfz6_2 := blk_frozen BK104.out 2
      have hfz6_3 := blk_frozen BK104.out 3
      have hfz6_4 := blk_frozen BK104.out 4
      have hfz6_5 := blk_frozen BK104.out 5
      have hfz6_6 := blk_frozen BK104.out 6
      have hfz6_7 := blk_frozen BK104.out 7
      have hfz6_8 := blk_frozen BK104.out 8
      have hfz6_9 := blk_frozen BK104.out 9
      have hfz6_10 := blk_frozen BK104.out 10
      have hfz6_11 := blk_frozen BK104.out 11
      have hfz6_12 := blk_frozen BK104.out 12
      have hfz6_13 := blk_frozen BK104.out 13
      have hfz6_14 := blk_frozen BK104.out 14
      have hfz6_15 := blk_frozen BK104.out 15
      have hfz6_16 := blk_frozen BK104.out 16
      go_wp2
      go_meet
      case rel => exact ⟨_, (decide (a0_7 > 3)), (by first | rfl | (simp; done) | (simp [*]; done)), H', ⟨by first | omega | exact Nat.le_refl _⟩, ⟨by (with_reducible repeat (first | refine blk_drewN ?_ _ | refine blk_drew ?_ | refine blk_alloc ?_ _)); exact BK104.out⟩, ⟨by repeat (first | (with_reducible first | exact HB.out | apply below_alloc | apply pw_below_drewN | apply below_drew1 | refine below_set ?_ GE104.out) | exact HB.out)⟩⟩
  case rest =>
    clear HC2
    try clear c1
    try clear p2
    try clear c4
    try clear c4b0
    try clear hcz5_0
    try clear hcz5_1
    try clear hcz5_10
    try clear hcz5_11
    try clear hcz5_12
    try clear hcz5_13
    try clear hcz5_14
    try clear hcz5_15
    try clear hcz5_16
    try clear hcz5_2
    try clear hcz5_3
    try clear hcz5_4
    try clear hcz5_5
    try clear hcz5_6
    try clear hcz5_7
    try clear hcz5_8
    try clear hcz5_9
    try clear hcz6_0
    try clear hcz6_1
    try clear hcz6_10
    try clear hcz6_11
    try clear hcz6_12
    try clear hcz6_13
    try clear hcz6_14
    try clear hcz6_15
    try clear hcz6_16
    try clear hcz6_2
    try clear hcz6_3
    try clear hcz6_4
    try clear hcz6_5
    try clear hcz6_6
    try clear hcz6_7
    try clear hcz6_8
    try clear hcz6_9
    try clear hfz5_0
    try clear hfz5_1
    try clear hfz5_10
    try clear hfz5_11
    try clear hfz5_12
    try clear hfz5_13
    try clear hfz5_14
    try clear hfz5_15
    try clear hfz5_16
    try clear hfz5_2
    try clear hfz5_3
    try clear hfz5_4
    try clear hfz5_5
    try clear hfz5_6
    try clear hfz5_7
    try clear hfz5_8
    try clear hfz5_9
    try clear hfz6_0
    try clear hfz6_1
    try clear hfz6_10
    try clear hfz6_11
    try clear hfz6_12
    try clear hfz6_13
    try clear hfz6_14
    try clear hfz6_15
    try clear hfz6_16
    try clear hfz6_2
    try clear hfz6_3
    try clear hfz6_4
    try clear hfz6_5
    try clear hfz6_6
    try clear hfz6_7
    try clear hfz6_8
    try clear hfz6_9
    obtain ⟨kq, x10_1, rfl, HA, HJ1, BK104, HB⟩ := hcut
    cases kq with
    | zero => exact absurd HA.out (by simp [estoversref26_Check.j0])
    | succ kj1 =>
      have H := HA.out
      clear HA
      simp only [estoversref26_Check.j0] at H
      by_cases c7 : x10_1 = true
      · subst c7
        have H1 : (some 1) = some r := by rw [if_pos rfl] at H; exact H
        clear H
        have H := H1
        clear H1
        obtain rfl := Option.some.inj H
        go_wp2
        go_ret
        exact ⟨by first | rfl | (simp [errW_none, errW_some] <;> rfl) | (simp [*, errW_none, errW_some] <;> rfl), by repeat (first | (with_reducible first | exact HB.out | apply below_alloc | apply pw_below_drewN | apply below_drew1 | refine below_set ?_ GE104.out) | exact HB.out)⟩
      · replace c7 := Bool.eq_false_iff.mpr c7
        subst c7
        have H1 : (if a0_16 < 0 then (estoversref26_Check.j1 kj1 true a0_0 a0_1 a0_2 a0_3 a0_4 a0_5 a0_6 a0_7 a0_8 a0_9 a0_10 a0_11 a0_12 a0_13 a0_14 a0_15 a0_16) else (estoversref26_Check.j1 kj1 (decide (a0_16 > 2)) a0_0 a0_1 a0_2 a0_3 a0_4 a0_5 a0_6 a0_7 a0_8 a0_9 a0_10 a0_11 a0_12 a0_13 a0_14 a0_15 a0_16)) = some r := by rw [if_neg (show ¬ (false = true) by decide)] at H; exact H
        clear H
        have H := H1
        clear H1
        have HC8 := Aside0.mk H
        clear H
        go_upto_region 3 with (fail)
        go_cut [18] (fun v18 wc => ∃ (kq : Nat) (x18_7 : Bool), v18 = .bool x18_7 ∧ Aside0 (estoversref26_Check.j1 kq x18_7 a0_0 a0_1 a0_2 a0_3 a0_4 a0_5 a0_6 a0_7 a0_8 a0_9 a0_10 a0_11 a0_12 a0_13 a0_14 a0_15 a0_16 = some r) ∧ Aside0 (kq ≤ kj1) ∧ Aside0 (wc.heap[gb104]? = some (.cells #[.bool a0_0, .bool a0_1, .int .i64 a0_2, .bool a0_3, .bool a0_4, .bool a0_5, .bool a0_6, .int .i64 a0_7, .bool a0_8, .bool a0_9, .bool a0_10, .bool a0_11, .bool a0_12, .bool a0_13, .bool a0_14, .bool a0_15, .int .i64 a0_16] 23 (0, 0))) ∧ Aside0 (Below w.heap.size w wc))
        case first =>
          have H := HC8.out
          clear HC8
          by_cases c9 : a0_16 < 0
          · rw [if_pos c9] at H
            have c9b0 : decide (a0_16 < 0) = true := decide_eq_true c9
            clear c9
            (first | rw [c9b0] | (simp only [i64_w, i32_w]; rw [c9b0]) | skip)
            have H' := Aside0.mk H
            clear H
            have hcz10_0 : wc.cell? ⟨gb104, 0, none⟩ = some (.bool a0_0) := (blk_cell BK104.out 0).trans rfl
            have hcz10_1 : wc.cell? ⟨gb104, 1, none⟩ = some (.bool a0_1) := (blk_cell BK104.out 1).trans rfl
            have hcz10_2 : wc.cell? ⟨gb104, 2, none⟩ = some (.int .i64 a0_2) := (blk_cell BK104.out 2).trans rfl
            have hcz10_3 : wc.cell? ⟨gb104, 3, none⟩ = some (.bool a0_3) := (blk_cell BK104.out 3).trans rfl
            have hcz10_4 : wc.cell? ⟨gb104, 4, none⟩ = some (.bool a0_4) := (blk_cell BK104.out 4).trans rfl
            have hcz10_5 : wc.cell? ⟨gb104, 5, none⟩ = some (.bool a0_5) := (blk_cell BK104.out 5).trans rfl
            have hcz10_6 : wc.cell? ⟨gb104, 6, none⟩ = some (.bool a0_6) := (blk_cell BK104.out 6).trans rfl
            have hcz10_7 : wc.cell? ⟨gb104, 7, none⟩ = some (.int .i64 a0_7) := (blk_cell BK104.out 7).trans rfl
            have hcz10_8 : wc.cell? ⟨gb104, 8, none⟩ = some (.bool a0_8) := (blk_cell BK104.out 8).trans rfl
            have hcz10_9 : wc.cell? ⟨gb104, 9, none⟩ = some (.bool a0_9) := (blk_cell BK104.out 9).trans rfl
            have hcz10_10 : wc.cell? ⟨gb104, 10, none⟩ = some (.bool a0_10) := (blk_cell BK104.out 10).trans rfl
            have hcz10_11 : wc.cell? ⟨gb104, 11, none⟩ = some (.bool a0_11) := (blk_cell BK104.out 11).trans rfl
            have hcz10_12 : wc.cell? ⟨gb104, 12, none⟩ = some (.bool a0_12) := (blk_cell BK104.out 12).trans rfl
            have hcz10_13 : wc.cell? ⟨gb104, 13, none⟩ = some (.bool a0_13) := (blk_cell BK104.out 13).trans rfl
            have hcz10_14 : wc.cell? ⟨gb104, 14, none⟩ = some (.bool a0_14) := (blk_cell BK104.out 14).trans rfl
            have hcz10_15 : wc.cell? ⟨gb104, 15, none⟩ = some (.bool a0_15) := (blk_cell BK104.out 15).trans rfl
            have hcz10_16 : wc.cell? ⟨gb104, 16, none⟩ = some (.int .i64 a0_16) := (blk_cell BK104.out 16).trans rfl
            have hfz10_0 := blk_frozen BK104.out 0
            have hfz10_1 := blk_frozen BK104.out 1
            have hfz10_2 := blk_frozen BK104.out 2
            have hfz10_3 := blk_frozen BK104.out 3
            have hfz10_4 := blk_frozen BK104.out 4
            have hfz10_5 := blk_frozen BK104.out 5
            have hfz10_6 := blk_frozen BK104.out 6
            have hfz10_7 := blk_frozen BK104.out 7
            have hfz10_8 := blk_frozen BK104.out 8
            have hfz10_9 := blk_frozen BK104.out 9
            have hfz10_10 := blk_frozen BK104.out 10
            have hfz10_11 := blk_frozen BK104.out 11
            have hfz10_12 := blk_frozen BK104.out 12
            have hfz10_13 := blk_frozen BK104.out 13
            have hfz10_14 := blk_frozen BK104.out 14
            have hfz10_15 := blk_frozen BK104.out 15
            have hfz10_16 := blk_frozen BK104.out 16
            go_wp2
            go_meet
            case rel => exact ⟨_, (true), (by first | rfl | (simp; done) | (simp [*]; done)), H', ⟨by have := HJ1.out; first | omega | exact Nat.le_refl _⟩, ⟨by (with_reducible repeat (first | refine blk_drewN ?_ _ | refine blk_drew ?_ | refine blk_alloc ?_ _)); exact BK104.out⟩, ⟨by repeat (first | (with_reducible first | exact HB.out | apply below_alloc | apply pw_below_drewN | apply below_drew1 | refine below_set ?_ GE104.out) | exact HB.out)⟩⟩
          · rw [if_neg c9] at H
            have c9b0 : decide (a0_16 < 0) = false := decide_eq_false c9
            clear c9
            (first | rw [c9b0] | (simp only [i64_w, i32_w]; rw [c9b0]) | skip)
            have H' := Aside0.mk H
            clear H
            have hcz11_0 : wc.cell? ⟨gb104, 0, none⟩ = some (.bool a0_0) := (blk_cell BK104.out 0).trans rfl
            have hcz11_1 : wc.cell? ⟨gb104, 1, none⟩ = some (.bool a0_1) := (blk_cell BK104.out 1).trans rfl
            have hcz11_2 : wc.cell? ⟨gb104, 2, none⟩ = some (.int .i64 a0_2) := (blk_cell BK104.out 2).trans rfl
            have hcz11_3 : wc.cell? ⟨gb104, 3, none⟩ = some (.bool a0_3) := (blk_cell BK104.out 3).trans rfl
            have hcz11_4 : wc.cell? ⟨gb104, 4, none⟩ = some (.bool a0_4) := (blk_cell BK104.out 4).trans rfl
            have hcz11_5 : wc.cell? ⟨gb104, 5, none⟩ = some (.bool a0_5) := (blk_cell BK104.out 5).trans rfl
            have hcz11_6 : wc.cell? ⟨gb104, 6, none⟩ = some (.bool a0_6) := (blk_cell BK104.out 6).trans rfl
            have hcz11_7 : wc.cell? ⟨gb104, 7, none⟩ = some (.int .i64 a0_7) := (blk_cell BK104.out 7).trans rfl
            have hcz11_8 : wc.cell? ⟨gb104, 8, none⟩ = some (.bool a0_8) := (blk_cell BK104.out 8).trans rfl
            have hcz11_9 : wc.cell? ⟨gb104, 9, none⟩ = some (.bool a0_9) := (blk_cell BK104.out 9).trans rfl
            have hcz11_10 : wc.cell? ⟨gb104, 10, none⟩ = some (.bool a0_10) := (blk_cell BK104.out 10).trans rfl
            have hcz11_11 : wc.cell? ⟨gb104, 11, none⟩ = some (.bool a0_11) := (blk_cell BK104.out 11).trans rfl
            have hcz11_12 : wc.cell? ⟨gb104, 12, none⟩ = some (.bool a0_12) := (blk_cell BK104.out 12).trans rfl
            have hcz11_13 : wc.cell? ⟨gb104, 13, none⟩ = some (.bool a0_13) := (blk_cell BK104.out 13).trans rfl
            have hcz11_14 : wc.cell? ⟨gb104, 14, none⟩ = some (.bool a0_14) := (blk_cell BK104.out 14).trans rfl
            have hcz11_15 : wc.cell? ⟨gb104, 15, none⟩ = some (.bool a0_15) := (blk_cell BK104.out 15).trans rfl
            have hcz11_16 : wc.cell? ⟨gb104, 16, none⟩ = some (.int .i64 a0_16) := (blk_cell BK104.out 16).trans rfl
            have hfz11_0 := blk_frozen BK104.out 0
            have hfz11_1 := blk_frozen BK104.out 1
            have hfz11_2 := blk_frozen BK104.out 2
            have hfz11_3 := blk_frozen BK104.out 3
            have hfz11_4 := blk_frozen BK104.out 4
            have hfz11_5 := blk_frozen BK104.out 5
            have hfz11_6 := blk_frozen BK104.out 6
            have hfz11_7 := blk_frozen BK104.out 7
            have hfz11_8 := blk_frozen BK104.out 8
            have hfz11_9 := blk_frozen BK104.out 9
            have hfz11_10 := blk_frozen BK104.out 10
            have hfz11_11 := blk_frozen BK104.out 11
            have hfz11_12 := blk_frozen BK104.out 12
            have hfz11_13 := blk_frozen BK104.out 13
            have hfz11_14 := blk_frozen BK104.out 14
            have hfz11_15 := blk_frozen BK104.out 15
            have hfz11_16 := blk_frozen BK104.out 16
            go_wp2
            go_meet
            case rel => exact ⟨_, (decide (a0_16 > 2)), (by first | rfl | (simp; done) | (simp [*]; done)), H', ⟨by have := HJ1.out; first | omega | exact Nat.le_refl _⟩, ⟨by (with_reducible repeat (first | refine blk_drewN ?_ _ | refine blk_drew ?_ | refine blk_alloc ?_ _)); exact BK104.out⟩, ⟨by repeat (first | (with_reducible first | exact HB.out | apply below_alloc | apply pw_below_drewN | apply below_drew1 | refine below_set ?_ GE104.out) | exact HB.out)⟩⟩
        case rest =>
          clear HC8
          try clear c1
          try clear p2
          try clear c4
          try clear c4b0
          try clear c7
          try clear c9
          try clear c9b0
          try clear c11
          try clear hcz10_0
          try clear hcz10_1
          try clear hcz10_10
          try clear hcz10_11
          try clear hcz10_12
          try clear hcz10_13
          try clear hcz10_14
          try clear hcz10_15
          try clear hcz10_16
          try clear hcz10_2
          try clear hcz10_3
          try clear hcz10_4
          try clear hcz10_5
          try clear hcz10_6
          try clear hcz10_7
          try clear hcz10_8
          try clear hcz10_9
          try clear hcz11_0
          try clear hcz11_1
          try clear hcz11_10
          try clear hcz11_11
          try clear hcz11_12
          try clear hcz11_13
          try clear hcz11_14
          try clear hcz11_15
          try clear hcz11_16
          try clear hcz11_2
          try clear hcz11_3
          try clear hcz11_4
          try clear hcz11_5
          try clear hcz11_6
          try clear hcz11_7
          try clear hcz11_8
          try clear hcz11_9
          try clear hcz5_0
          try clear hcz5_1
          try clear hcz5_10
          try clear hcz5_11
          try clear hcz5_12
          try clear hcz5_13
          try clear hcz5_14
          try clear hcz5_15
          try clear hcz5_16
          try clear hcz5_2
          try clear hcz5_3
          try clear hcz5_4
          try clear hcz5_5
          try clear hcz5_6
          try clear hcz5_7
          try clear hcz5_8
          try clear hcz5_9
          try clear hcz6_0
          try clear hcz6_1
          try clear hcz6_10
          try clear hcz6_11
          try clear hcz6_12
          try clear hcz6_13
          try clear hcz6_14
          try clear hcz6_15
          try clear hcz6_16
          try clear hcz6_2
          try clear hcz6_3
          try clear hcz6_4
          try clear hcz6_5
          try clear hcz6_6
          try clear hcz6_7
          try clear hcz6_8
          try clear hcz6_9
          try clear hfz10_0
          try clear hfz10_1
          try clear hfz10_10
          try clear hfz10_11
          try clear hfz10_12
          try clear hfz10_13
          try clear hfz10_14
          try clear hfz10_15
          try clear hfz10_16
          try clear hfz10_2
          try clear hfz10_3
          try clear hfz10_4
          try clear hfz10_5
          try clear hfz10_6
          try clear hfz10_7
          try clear hfz10_8
          try clear hfz10_9
          try clear hfz11_0
          try clear hfz11_1
          try clear hfz11_10
          try clear hfz11_11
          try clear hfz11_12
          try clear hfz11_13
          try clear hfz11_14
          try clear hfz11_15
          try clear hfz11_16
          try clear hfz11_2
          try clear hfz11_3
          try clear hfz11_4
          try clear hfz11_5
          try clear hfz11_6
          try clear hfz11_7
          try clear hfz11_8
          try clear hfz11_9
          try clear hfz5_0
          try clear hfz5_1
          try clear hfz5_10
          try clear hfz5_11
          try clear hfz5_12
          try clear hfz5_13
          try clear hfz5_14
          try clear hfz5_15
          try clear hfz5_16
          try clear hfz5_2
          try clear hfz5_3
          try clear hfz5_4
          try clear hfz5_5
          try clear hfz5_6
          try clear hfz5_7
          try clear hfz5_8
          try clear hfz5_9
          try clear hfz6_0
          try clear hfz6_1
          try clear hfz6_10
          try clear hfz6_11
          try clear hfz6_12
          try clear hfz6_13
          try clear hfz6_14
          try clear hfz6_15
          try clear hfz6_16
          try clear hfz6_2
          try clear hfz6_3
          try clear hfz6_4
          try clear hfz6_5
          try clear hfz6_6
          try clear hfz6_7
          try clear hfz6_8
          try clear hfz6_9
          try clear p2
          obtain ⟨kq, x18_7, rfl, HA, HJ7, BK104, HB⟩ := hcut
          cases kq with
          | zero => exact absurd HA.out (by simp [estoversref26_Check.j1])
          | succ kj7 =>
            have H := HA.out
            clear HA
            simp only [estoversref26_Check.j1] at H
            by_cases c12 : x18_7 = true
            · subst c12
              have H1 : (some 2) = some r := by rw [if_pos rfl] at H; exact H
              clear H
              have H := H1
              clear H1
              obtain rfl := Option.some.inj H
              go_wp2
              go_ret
              exact ⟨by first | rfl | (simp [errW_none, errW_some] <;> rfl) | (simp [*, errW_none, errW_some] <;> rfl), by repeat (first | (with_reducible first | exact HB.out | apply below_alloc | apply pw_below_drewN | apply below_drew1 | refine below_set ?_ GE104.out) | exact HB.out)⟩
            · replace c12 := Bool.eq_false_iff.mpr c12
              subst c12
              have H1 : (if a0_1 = true then (if a0_2 = 1 then (estoversref26_Check.j2 kj7 false a0_0 a0_1 a0_2 a0_3 a0_4 a0_5 a0_6 a0_7 a0_8 a0_9 a0_10 a0_11 a0_12 a0_13 a0_14 a0_15 a0_16) else ((estoversref26_writes.f a0_0 a0_1 a0_2 a0_3 a0_4 a0_5 a0_6 a0_7 a0_8 a0_9 a0_10 a0_11 a0_12 a0_13 a0_14 a0_15 a0_16).bind fun t105 => (estoversref26_Check.j2 kj7 (!t105) a0_0 a0_1 a0_2 a0_3 a0_4 a0_5 a0_6 a0_7 a0_8 a0_9 a0_10 a0_11 a0_12 a0_13 a0_14 a0_15 a0_16))) else (some 0)) = some r := by rw [if_neg (show ¬ (false = true) by decide)] at H; exact H
              clear H
              have H := H1
              clear H1
              by_cases c13 : a0_1 = true
              · subst c13
                have H1 : (if a0_2 = 1 then (estoversref26_Check.j2 kj7 false a0_0 true a0_2 a0_3 a0_4 a0_5 a0_6 a0_7 a0_8 a0_9 a0_10 a0_11 a0_12 a0_13 a0_14 a0_15 a0_16) else ((estoversref26_writes.f a0_0 true a0_2 a0_3 a0_4 a0_5 a0_6 a0_7 a0_8 a0_9 a0_10 a0_11 a0_12 a0_13 a0_14 a0_15 a0_16).bind fun t105 => (estoversref26_Check.j2 kj7 (!t105) a0_0 true a0_2 a0_3 a0_4 a0_5 a0_6 a0_7 a0_8 a0_9 a0_10 a0_11 a0_12 a0_13 a0_14 a0_15 a0_16))) = some r := by rw [if_pos rfl] at H; exact H
                clear H
                have H := H1
                clear H1
                have HC14 := Aside0.mk H
                clear H
                have hcz15_0 : wc.cell? ⟨gb104, 0, none⟩ = some (.bool a0_0) := (blk_cell BK104.out 0).trans rfl
                have hcz15_1 : wc.cell? ⟨gb104, 1, none⟩ = some (.bool true) := (blk_cell BK104.out 1).trans rfl
                have hcz15_2 : wc.cell? ⟨gb104, 2, none⟩ = some (.int .i64 a0_2) := (blk_cell BK104.out 2).trans rfl
                have hcz15_3 : wc.cell? ⟨gb104, 3, none⟩ = some (.bool a0_3) := (blk_cell BK104.out 3).trans rfl
                have hcz15_4 : wc.cell? ⟨gb104, 4, none⟩ = some (.bool a0_4) := (blk_cell BK104.out 4).trans rfl
                have hcz15_5 : wc.cell? ⟨gb104, 5, none⟩ = some (.bool a0_5) := (blk_cell BK104.out 5).trans rfl
                have hcz15_6 : wc.cell? ⟨gb104, 6, none⟩ = some (.bool a0_6) := (blk_cell BK104.out 6).trans rfl
                have hcz15_7 : wc.cell? ⟨gb104, 7, none⟩ = some (.int .i64 a0_7) := (blk_cell BK104.out 7).trans rfl
                have hcz15_8 : wc.cell? ⟨gb104, 8, none⟩ = some (.bool a0_8) := (blk_cell BK104.out 8).trans rfl
                have hcz15_9 : wc.cell? ⟨gb104, 9, none⟩ = some (.bool a0_9) := (blk_cell BK104.out 9).trans rfl
                have hcz15_10 : wc.cell? ⟨gb104, 10, none⟩ = some (.bool a0_10) := (blk_cell BK104.out 10).trans rfl
                have hcz15_11 : wc.cell? ⟨gb104, 11, none⟩ = some (.bool a0_11) := (blk_cell BK104.out 11).trans rfl
                have hcz15_12 : wc.cell? ⟨gb104, 12, none⟩ = some (.bool a0_12) := (blk_cell BK104.out 12).trans rfl
                have hcz15_13 : wc.cell? ⟨gb104, 13, none⟩ = some (.bool a0_13) := (blk_cell BK104.out 13).trans rfl
                have hcz15_14 : wc.cell? ⟨gb104, 14, none⟩ = some (.bool a0_14) := (blk_cell BK104.out 14).trans rfl
                have hcz15_15 : wc.cell? ⟨gb104, 15, none⟩ = some (.bool a0_15) := (blk_cell BK104.out 15).trans rfl
                have hcz15_16 : wc.cell? ⟨gb104, 16, none⟩ = some (.int .i64 a0_16) := (blk_cell BK104.out 16).trans rfl
                have hfz15_0 := blk_frozen BK104.out 0
                have hfz15_1 := blk_frozen BK104.out 1
                have hfz15_2 := blk_frozen BK104.out 2
                have hfz15_3 := blk_frozen BK104.out 3
                have hfz15_4 := blk_frozen BK104.out 4
                have hfz15_5 := blk_frozen BK104.out 5
                have hfz15_6 := blk_frozen BK104.out 6
                have hfz15_7 := blk_frozen BK104.out 7
                have hfz15_8 := blk_frozen BK104.out 8
                have hfz15_9 := blk_frozen BK104.out 9
                have hfz15_10 := blk_frozen BK104.out 10
                have hfz15_11 := blk_frozen BK104.out 11
                have hfz15_12 := blk_frozen BK104.out 12
                have hfz15_13 := blk_frozen BK104.out 13
                have hfz15_14 := blk_frozen BK104.out 14
                have hfz15_15 := blk_frozen BK104.out 15
                have hfz15_16 := blk_frozen BK104.out 16
                go_upto_region 7 with (fail)
                go_cut [29] (fun v29 wc => ∃ (kq : Nat) (x29_13 : Bool), v29 = .bool x29_13 ∧ Aside0 (estoversref26_Check.j2 kq x29_13 a0_0 true a0_2 a0_3 a0_4 a0_5 a0_6 a0_7 a0_8 a0_9 a0_10 a0_11 a0_12 a0_13 a0_14 a0_15 a0_16 = some r) ∧ Aside0 (kq ≤ kj7) ∧ Aside0 (wc.heap[gb104]? = some (.cells #[.bool a0_0, .bool true, .int .i64 a0_2, .bool a0_3, .bool a0_4, .bool a0_5, .bool a0_6, .int .i64 a0_7, .bool a0_8, .bool a0_9, .bool a0_10, .bool a0_11, .bool a0_12, .bool a0_13, .bool a0_14, .bool a0_15, .int .i64 a0_16] 23 (0, 0))) ∧ Aside0 (Below w.heap.size w wc))
                case first =>
                  have H := HC14.out
                  clear HC14
                  by_cases c16 : a0_2 = 1
                  · rw [if_pos c16] at H
                    have c16b0 : (a0_2 == 1) = true := beq_iff_eq.mpr c16
                    have c16b1 : (a0_2 != 1) = false := bne_eq_false_iff_eq.mpr c16
                    clear c16
                    (first | rw [c16b0] | (simp only [i64_w, i32_w]; rw [c16b0]) | skip)
                    have H' := Aside0.mk H
                    clear H
                    have hcz17_0 : wc.cell? ⟨gb104, 0, none⟩ = some (.bool a0_0) := (blk_cell BK104.out 0).trans rfl
                    have hcz17_1 : wc.cell? ⟨gb104, 1, none⟩ = some (.bool true) := (blk_cell BK104.out 1).trans rfl
                    have hcz17_2 : wc.cell? ⟨gb104, 2, none⟩ = some (.int .i64 a0_2) := (blk_cell BK104.out 2).trans rfl
                    have hcz17_3 : wc.cell? ⟨gb104, 3, none⟩ = some (.bool a0_3) := (blk_cell BK104.out 3).trans rfl
                    have hcz17_4 : wc.cell? ⟨gb104, 4, none⟩ = some (.bool a0_4) := (blk_cell BK104.out 4).trans rfl
                    have hcz17_5 : wc.cell? ⟨gb104, 5, none⟩ = some (.bool a0_5) := (blk_cell BK104.out 5).trans rfl
                    have hcz17_6 : wc.cell? ⟨gb104, 6, none⟩ = some (.bool a0_6) := (blk_cell BK104.out 6).trans rfl
                    have hcz17_7 : wc.cell? ⟨gb104, 7, none⟩ = some (.int .i64 a0_7) := (blk_cell BK104.out 7).trans rfl
                    have hcz17_8 : wc.cell? ⟨gb104, 8, none⟩ = some (.bool a0_8) := (blk_cell BK104.out 8).trans rfl
                    have hcz17_9 : wc.cell? ⟨gb104, 9, none⟩ = some (.bool a0_9) := (blk_cell BK104.out 9).trans rfl
                    have hcz17_10 : wc.cell? ⟨gb104, 10, none⟩ = some (.bool a0_10) := (blk_cell BK104.out 10).trans rfl
                    have hcz17_11 : wc.cell? ⟨gb104, 11, none⟩ = some (.bool a0_11) := (blk_cell BK104.out 11).trans rfl
                    have hcz17_12 : wc.cell? ⟨gb104, 12, none⟩ = some (.bool a0_12) := (blk_cell BK104.out 12).trans rfl
                    have hcz17_13 : wc.cell? ⟨gb104, 13, none⟩ = some (.bool a0_13) := (blk_cell BK104.out 13).trans rfl
                    have hcz17_14 : wc.cell? ⟨gb104, 14, none⟩ = some (.bool a0_14) := (blk_cell BK104.out 14).trans rfl
                    have hcz17_15 : wc.cell? ⟨gb104, 15, none⟩ = some (.bool a0_15) := (blk_cell BK104.out 15).trans rfl
                    have hcz17_16 : wc.cell? ⟨gb104, 16, none⟩ = some (.int .i64 a0_16) := (blk_cell BK104.out 16).trans rfl
                    have hfz17_0 := blk_frozen BK104.out 0
                    have hfz17_1 := blk_frozen BK104.out 1
                    have hfz17_2 := blk_frozen BK104.out 2
                    have hfz17_3 := blk_frozen BK104.out 3
                    have hfz17_4 := blk_frozen BK104.out 4
                    have hfz17_5 := blk_frozen BK104.out 5
                    have hfz17_6 := blk_frozen BK104.out 6
                    have hfz17_7 := blk_frozen BK104.out 7
                    have hfz17_8 := blk_frozen BK104.out 8
                    have hfz17_9 := blk_frozen BK104.out 9
                    have hfz17_10 := blk_frozen BK104.out 10
                    have hfz17_11 := blk_frozen BK104.out 11
                    have hfz17_12 := blk_frozen BK104.out 12
                    have hfz17_13 := blk_frozen BK104.out 13
                    have hfz17_14 := blk_frozen BK104.out 14
                    have hfz17_15 := blk_frozen BK104.out 15
                    have hfz17_16 := blk_frozen BK104.out 16
                    go_wp2
                    go_meet
                    case rel => exact ⟨_, (false), (by first | rfl | (simp; done) | (simp [*]; done)), H', ⟨by have := HJ1.out; have := HJ7.out; first | omega | exact Nat.le_refl _⟩, ⟨by (with_reducible repeat (first | refine blk_drewN ?_ _ | refine blk_drew ?_ | refine blk_alloc ?_ _)); exact BK104.out⟩, ⟨by repeat (first | (with_reducible first | exact HB.out | apply below_alloc | apply pw_below_drewN | apply below_drew1 | refine below_set ?_ GE104.out) | exact HB.out)⟩⟩
                  · rw [if_neg c16] at H
                    have c16b0 : (a0_2 == 1) = false := beq_eq_false_iff_ne.mpr c16
                    have c16b1 : (a0_2 != 1) = true := bne_iff_ne.mpr c16
                    (first | rw [c16b0] | (simp only [i64_w, i32_w]; rw [c16b0]) | skip)
                    replace H := Option.bind_eq_some_iff.mp H
                    obtain ⟨t105, A180, H⟩ := H
                    replace H : (estoversref26_Check.j2 kj7 (!t105) a0_0 true a0_2 a0_3 a0_4 a0_5 a0_6 a0_7 a0_8 a0_9 a0_10 a0_11 a0_12 a0_13 a0_14 a0_15 a0_16) = some r := H
                    have A18 := Aside0.mk A180
                    clear A180
                    have H' := Aside0.mk H
                    clear H
                    have hcz19_0 : wc.cell? ⟨gb104, 0, none⟩ = some (.bool a0_0) := (blk_cell BK104.out 0).trans rfl
                    have hcz19_1 : wc.cell? ⟨gb104, 1, none⟩ = some (.bool true) := (blk_cell BK104.out 1).trans rfl
                    have hcz19_2 : wc.cell? ⟨gb104, 2, none⟩ = some (.int .i64 a0_2) := (blk_cell BK104.out 2).trans rfl
                    have hcz19_3 : wc.cell? ⟨gb104, 3, none⟩ = some (.bool a0_3) := (blk_cell BK104.out 3).trans rfl
                    have hcz19_4 : wc.cell? ⟨gb104, 4, none⟩ = some (.bool a0_4) := (blk_cell BK104.out 4).trans rfl
                    have hcz19_5 : wc.cell? ⟨gb104, 5, none⟩ = some (.bool a0_5) := (blk_cell BK104.out 5).trans rfl
                    have hcz19_6 : wc.cell? ⟨gb104, 6, none⟩ = some (.bool a0_6) := (blk_cell BK104.out 6).trans rfl
                    have hcz19_7 : wc.cell? ⟨gb104, 7, none⟩ = some (.int .i64 a0_7) := (blk_cell BK104.out 7).trans rfl
                    have hcz19_8 : wc.cell? ⟨gb104, 8, none⟩ = some (.bool a0_8) := (blk_cell BK104.out 8).trans rfl
                    have hcz19_9 : wc.cell? ⟨gb104, 9, none⟩ = some (.bool a0_9) := (blk_cell BK104.out 9).trans rfl
                    have hcz19_10 : wc.cell? ⟨gb104, 10, none⟩ = some (.bool a0_10) := (blk_cell BK104.out 10).trans rfl
                    have hcz19_11 : wc.cell? ⟨gb104, 11, none⟩ = some (.bool a0_11) := (blk_cell BK104.out 11).trans rfl
                    have hcz19_12 : wc.cell? ⟨gb104, 12, none⟩ = some (.bool a0_12) := (blk_cell BK104.out 12).trans rfl
                    have hcz19_13 : wc.cell? ⟨gb104, 13, none⟩ = some (.bool a0_13) := (blk_cell BK104.out 13).trans rfl
                    have hcz19_14 : wc.cell? ⟨gb104, 14, none⟩ = some (.bool a0_14) := (blk_cell BK104.out 14).trans rfl
                    have hcz19_15 : wc.cell? ⟨gb104, 15, none⟩ = some (.bool a0_15) := (blk_cell BK104.out 15).trans rfl
                    have hcz19_16 : wc.cell? ⟨gb104, 16, none⟩ = some (.int .i64 a0_16) := (blk_cell BK104.out 16).trans rfl
                    have hfz19_0 := blk_frozen BK104.out 0
                    have hfz19_1 := blk_frozen BK104.out 1
                    have hfz19_2 := blk_frozen BK104.out 2
                    have hfz19_3 := blk_frozen BK104.out 3
                    have hfz19_4 := blk_frozen BK104.out 4
                    have hfz19_5 := blk_frozen BK104.out 5
                    have hfz19_6 := blk_frozen BK104.out 6
                    have hfz19_7 := blk_frozen BK104.out 7
                    have hfz19_8 := blk_frozen BK104.out 8
                    have hfz19_9 := blk_frozen BK104.out 9
                    have hfz19_10 := blk_frozen BK104.out 10
                    have hfz19_11 := blk_frozen BK104.out 11
                    have hfz19_12 := blk_frozen BK104.out 12
                    have hfz19_13 := blk_frozen BK104.out 13
                    have hfz19_14 := blk_frozen BK104.out 14
                    have hfz19_15 := blk_frozen BK104.out 15
                    have hfz19_16 := blk_frozen BK104.out 16
                    go_wp2_with (first | (go_at_call 18; (with_reducible refine (estoversref26_writes.calls a0_0 true a0_2 a0_3 a0_4 a0_5 a0_6 a0_7 a0_8 a0_9 a0_10 a0_11 a0_12 a0_13 a0_14 a0_15 a0_16 t105 _ A18.out).mono ?_); rintro e w20 ⟨rfl, hb⟩; have n0_ := Aside0.mk (blk_below (g := gb104) (o := .cells #[.bool a0_0, .bool true, .int .i64 a0_2, .bool a0_3, .bool a0_4, .bool a0_5, .bool a0_6, .int .i64 a0_7, .bool a0_8, .bool a0_9, .bool a0_10, .bool a0_11, .bool a0_12, .bool a0_13, .bool a0_14, .bool a0_15, .int .i64 a0_16] 23 (0, 0)) (by (with_reducible repeat (first | refine blk_drewN ?_ _ | refine blk_drew ?_ | refine blk_alloc ?_ _)); exact BK104.out) hb); have n1_ := Aside0.mk (below_step (by repeat (first | (with_reducible first | exact HB.out | apply below_alloc | apply pw_below_drewN | apply below_drew1 | refine below_set ?_ GE104.out) | exact HB.out)) hb); clear BK104; clear HB; have BK104 := n0_; have HB := n1_; clear n0_ n1_; (try clear hb); (try clear hb2); (try clear hk); (try clear hi)))
                    go_meet
                    case rel => exact ⟨_, (!t105), (by first | rfl | (simp; done) | (simp [*]; done)), H', ⟨by have := HJ1.out; have := HJ7.out; first | omega | exact Nat.le_refl _⟩, ⟨by (with_reducible repeat (first | refine blk_drewN ?_ _ | refine blk_drew ?_ | refine blk_alloc ?_ _)); exact BK104.out⟩, ⟨by repeat (first | (with_reducible first | exact HB.out | apply below_alloc | apply pw_below_drewN | apply below_drew1 | refine below_set ?_ GE104.out) | exact HB.out)⟩⟩
                case rest =>
                  clear HC14
                  try clear c1
                  try clear p2
                  try clear c4
                  try clear c4b0
                  try clear c7
                  try clear c9
                  try clear c9b0
                  try clear c11
                  try clear c12
                  try clear c13
                  try clear c16
                  try clear c16b0
                  try clear c16b1
                  try clear hcz10_0
                  try clear hcz10_1
                  try clear hcz10_10
                  try clear hcz10_11
                  try clear hcz10_12
                  try clear hcz10_13
                  try clear hcz10_14
                  try clear hcz10_15
                  try clear hcz10_16
                  try clear hcz10_2
                  try clear hcz10_3
                  try clear hcz10_4
                  try clear hcz10_5
                  try clear hcz10_6
                  try clear hcz10_7
                  try clear hcz10_8
                  try clear hcz10_9
                  try clear hcz11_0
                  try clear hcz11_1
                  try clear hcz11_10
                  try clear hcz11_11
                  try clear hcz11_12
                  try clear hcz11_13
                  try clear hcz11_14
                  try clear hcz11_15
                  try clear hcz11_16
                  try clear hcz11_2
                  try clear hcz11_3
                  try clear hcz11_4
                  try clear hcz11_5
                  try clear hcz11_6
                  try clear hcz11_7
                  try clear hcz11_8
                  try clear hcz11_9
                  try clear hcz15_0
                  try clear hcz15_1
                  try clear hcz15_10
                  try clear hcz15_11
                  try clear hcz15_12
                  try clear hcz15_13
                  try clear hcz15_14
                  try clear hcz15_15
                  try clear hcz15_16
                  try clear hcz15_2
                  try clear hcz15_3
                  try clear hcz15_4
                  try clear hcz15_5
                  try clear hcz15_6
                  try clear hcz15_7
                  try clear hcz15_8
                  try clear hcz15_9
                  try clear hcz17_0
                  try clear hcz17_1
                  try clear hcz17_10
                  try clear hcz17_11
                  try clear hcz17_12
                  try clear hcz17_13
                  try clear hcz17_14
                  try clear hcz17_15
                  try clear hcz17_16
                  try clear hcz17_2
                  try clear hcz17_3
                  try clear hcz17_4
                  try clear hcz17_5
                  try clear hcz17_6
                  try clear hcz17_7
                  try clear hcz17_8
                  try clear hcz17_9
                  try clear hcz19_0
                  try clear hcz19_1
                  try clear hcz19_10
                  try clear hcz19_11
                  try clear hcz19_12
                  try clear hcz19_13
                  try clear hcz19_14
                  try clear hcz19_15
                  try clear hcz19_16
                  try clear hcz19_2
                  try clear hcz19_3
                  try clear hcz19_4
                  try clear hcz19_5
                  try clear hcz19_6
                  try clear hcz19_7
                  try clear hcz19_8
                  try clear hcz19_9
                  try clear hcz5_0
                  try clear hcz5_1
                  try clear hcz5_10
                  try clear hcz5_11
                  try clear hcz5_12
                  try clear hcz5_13
                  try clear hcz5_14
                  try clear hcz5_15
                  try clear hcz5_16
                  try clear hcz5_2
                  try clear hcz5_3
                  try clear hcz5_4
                  try clear hcz5_5
                  try clear hcz5_6
                  try clear hcz5_7
                  try clear hcz5_8
                  try clear hcz5_9
                  try clear hcz6_0
                  try clear hcz6_1
                  try clear hcz6_10
                  try clear hcz6_11
                  try clear hcz6_12
                  try clear hcz6_13
                  try clear hcz6_14
                  try clear hcz6_15
                  try clear hcz6_16
                  try clear hcz6_2
                  try clear hcz6_3
                  try clear hcz6_4
                  try clear hcz6_5
                  try clear hcz6_6
                  try clear hcz6_7
                  try clear hcz6_8
                  try clear hcz6_9
                  try clear hfz10_0
                  try clear hfz10_1
                  try clear hfz10_10
                  try clear hfz10_11
                  try clear hfz10_12
                  try clear hfz10_13
                  try clear hfz10_14
                  try clear hfz10_15
                  try clear hfz10_16
                  try clear hfz10_2
                  try clear hfz10_3
                  try clear hfz10_4
                  try clear hfz10_5
                  try clear hfz10_6
                  try clear hfz10_7
                  try clear hfz10_8
                  try clear hfz10_9
                  try clear hfz11_0
                  try clear hfz11_1
                  try clear hfz11_10
                  try clear hfz11_11
                  try clear hfz11_12
                  try clear hfz11_13
                  try clear hfz11_14
                  try clear hfz11_15
                  try clear hfz11_16
                  try clear hfz11_2
                  try clear hfz11_3
                  try clear hfz11_4
                  try clear hfz11_5
                  try clear hfz11_6
                  try clear hfz11_7
                  try clear hfz11_8
                  try clear hfz11_9
                  try clear hfz15_0
                  try clear hfz15_1
                  try clear hfz15_10
                  try clear hfz15_11
                  try clear hfz15_12
                  try clear hfz15_13
                  try clear hfz15_14
                  try clear hfz15_15
                  try clear hfz15_16
                  try clear hfz15_2
                  try clear hfz15_3
                  try clear hfz15_4
                  try clear hfz15_5
                  try clear hfz15_6
                  try clear hfz15_7
                  try clear hfz15_8
                  try clear hfz15_9
                  try clear hfz17_0
                  try clear hfz17_1
                  try clear hfz17_10
                  try clear hfz17_11
                  try clear hfz17_12
                  try clear hfz17_13
                  try clear hfz17_14
                  try clear hfz17_15
                  try clear hfz17_16
                  try clear hfz17_2
                  try clear hfz17_3
                  try clear hfz17_4
                  try clear hfz17_5
                  try clear hfz17_6
                  try clear hfz17_7
                  try clear hfz17_8
                  try clear hfz17_9
                  try clear hfz19_0
                  try clear hfz19_1
                  try clear hfz19_10
                  try clear hfz19_11
                  try clear hfz19_12
                  try clear hfz19_13
                  try clear hfz19_14
                  try clear hfz19_15
                  try clear hfz19_16
                  try clear hfz19_2
                  try clear hfz19_3
                  try clear hfz19_4
                  try clear hfz19_5
                  try clear hfz19_6
                  try clear hfz19_7
                  try clear hfz19_8
                  try clear hfz19_9
                  try clear hfz5_0
                  try clear hfz5_1
                  try clear hfz5_10
                  try clear hfz5_11
                  try clear hfz5_12
                  try clear hfz5_13
                  try clear hfz5_14
                  try clear hfz5_15
                  try clear hfz5_16
                  try clear hfz5_2
                  try clear hfz5_3
                  try clear hfz5_4
                  try clear hfz5_5
                  try clear hfz5_6
                  try clear hfz5_7
                  try clear hfz5_8
                  try clear hfz5_9
                  try clear hfz6_0
                  try clear hfz6_1
                  try clear hfz6_10
                  try clear hfz6_11
                  try clear hfz6_12
                  try clear hfz6_13
                  try clear hfz6_14
                  try clear hfz6_15
                  try clear hfz6_16
                  try clear hfz6_2
                  try clear hfz6_3
                  try clear hfz6_4
                  try clear hfz6_5
                  try clear hfz6_6
                  try clear hfz6_7
                  try clear hfz6_8
                  try clear hfz6_9
                  try clear p2
                  obtain ⟨kq, x29_13, rfl, HA, HJ13, BK104, HB⟩ := hcut
                  cases kq with
                  | zero => exact absurd HA.out (by simp [estoversref26_Check.j2])
                  | succ kj13 =>
                    have H := HA.out
                    clear HA
                    simp only [estoversref26_Check.j2] at H
                    by_cases c21 : x29_13 = true
                    · subst c21
                      have H1 : (some 1) = some r := by rw [if_pos rfl] at H; exact H
                      clear H
                      have H := H1
                      clear H1
                      obtain rfl := Option.some.inj H
                      go_wp2
                      go_ret
                      exact ⟨by first | rfl | (simp [errW_none, errW_some] <;> rfl) | (simp [*, errW_none, errW_some] <;> rfl), by repeat (first | (with_reducible first | exact HB.out | apply below_alloc | apply pw_below_drewN | apply below_drew1 | refine below_set ?_ GE104.out) | exact HB.out)⟩
                    · replace c21 := Bool.eq_false_iff.mpr c21
                      subst c21
                      have H1 : ((estoversref26_form.f a0_0 true a0_2 a0_3 a0_4 a0_5 a0_6 a0_7 a0_8 a0_9 a0_10 a0_11 a0_12 a0_13 a0_14 a0_15 a0_16).bind fun t106 => (if t106 = true then (some 0) else (some 3))) = some r := by rw [if_neg (show ¬ (false = true) by decide)] at H; exact H
                      clear H
                      have H := H1
                      clear H1
                      replace H := Option.bind_eq_some_iff.mp H
                      obtain ⟨t106, A220, H⟩ := H
                      replace H : (if t106 = true then (some 0) else (some 3)) = some r := H
                      have A22 := Aside0.mk A220
                      clear A220
                      by_cases c23 : t106 = true
                      · subst c23
                        have H1 : (some 0) = some r := by rw [if_pos rfl] at H; exact H
                        clear H
                        have H := H1
                        clear H1
                        obtain rfl := Option.some.inj H
                        have hcz24_0 : wc.cell? ⟨gb104, 0, none⟩ = some (.bool a0_0) := (blk_cell BK104.out 0).trans rfl
                        have hcz24_1 : wc.cell? ⟨gb104, 1, none⟩ = some (.bool true) := (blk_cell BK104.out 1).trans rfl
                        have hcz24_2 : wc.cell? ⟨gb104, 2, none⟩ = some (.int .i64 a0_2) := (blk_cell BK104.out 2).trans rfl
                        have hcz24_3 : wc.cell? ⟨gb104, 3, none⟩ = some (.bool a0_3) := (blk_cell BK104.out 3).trans rfl
                        have hcz24_4 : wc.cell? ⟨gb104, 4, none⟩ = some (.bool a0_4) := (blk_cell BK104.out 4).trans rfl
                        have hcz24_5 : wc.cell? ⟨gb104, 5, none⟩ = some (.bool a0_5) := (blk_cell BK104.out 5).trans rfl
                        have hcz24_6 : wc.cell? ⟨gb104, 6, none⟩ = some (.bool a0_6) := (blk_cell BK104.out 6).trans rfl
                        have hcz24_7 : wc.cell? ⟨gb104, 7, none⟩ = some (.int .i64 a0_7) := (blk_cell BK104.out 7).trans rfl
                        have hcz24_8 : wc.cell? ⟨gb104, 8, none⟩ = some (.bool a0_8) := (blk_cell BK104.out 8).trans rfl
                        have hcz24_9 : wc.cell? ⟨gb104, 9, none⟩ = some (.bool a0_9) := (blk_cell BK104.out 9).trans rfl
                        have hcz24_10 : wc.cell? ⟨gb104, 10, none⟩ = some (.bool a0_10) := (blk_cell BK104.out 10).trans rfl
                        have hcz24_11 : wc.cell? ⟨gb104, 11, none⟩ = some (.bool a0_11) := (blk_cell BK104.out 11).trans rfl
                        have hcz24_12 : wc.cell? ⟨gb104, 12, none⟩ = some (.bool a0_12) := (blk_cell BK104.out 12).trans rfl
                        have hcz24_13 : wc.cell? ⟨gb104, 13, none⟩ = some (.bool a0_13) := (blk_cell BK104.out 13).trans rfl
                        have hcz24_14 : wc.cell? ⟨gb104, 14, none⟩ = some (.bool a0_14) := (blk_cell BK104.out 14).trans rfl
                        have hcz24_15 : wc.cell? ⟨gb104, 15, none⟩ = some (.bool a0_15) := (blk_cell BK104.out 15).trans rfl
                        have hcz24_16 : wc.cell? ⟨gb104, 16, none⟩ = some (.int .i64 a0_16) := (blk_cell BK104.out 16).trans rfl
                        have hfz24_0 := blk_frozen BK104.out 0
                        have hfz24_1 := blk_frozen BK104.out 1
                        have hfz24_2 := blk_frozen BK104.out 2
                        have hfz24_3 := blk_frozen BK104.out 3
                        have hfz24_4 := blk_frozen BK104.out 4
                        have hfz24_5 := blk_frozen BK104.out 5
                        have hfz24_6 := blk_frozen BK104.out 6
                        have hfz24_7 := blk_frozen BK104.out 7
                        have hfz24_8 := blk_frozen BK104.out 8
                        have hfz24_9 := blk_frozen BK104.out 9
                        have hfz24_10 := blk_frozen BK104.out 10
                        have hfz24_11 := blk_frozen BK104.out 11
                        have hfz24_12 := blk_frozen BK104.out 12
                        have hfz24_13 := blk_frozen BK104.out 13
                        have hfz24_14 := blk_frozen BK104.out 14
                        have hfz24_15 := blk_frozen BK104.out 15
                        have hfz24_16 := blk_frozen BK104.out 16
                        go_wp2_with (first | ((with_reducible refine gate_callee (f := 19) rfl ?_); refine goesL_ (some 31) rfl rfl Try.func19 (by kernel_rfl) rfl #[.agg #[.bool a0_0, .bool true, .int .i64 a0_2, .bool a0_3, .bool a0_4, .bool a0_5, .bool a0_6, .int .i64 a0_7, .bool a0_8, .bool a0_9, .bool a0_10, .bool a0_11, .bool a0_12, .bool a0_13, .bool a0_14, .bool a0_15, .int .i64 a0_16]] rfl (by (try simp only [List.map_toArray, List.map_cons, List.map_nil]); first | done | rfl | (simp only [List.length_drop, List.length_take]; rfl)) ?_; (with_reducible refine (estoversref26_form.calls a0_0 true a0_2 a0_3 a0_4 a0_5 a0_6 a0_7 a0_8 a0_9 a0_10 a0_11 a0_12 a0_13 a0_14 a0_15 a0_16 true _ A22.out).mono ?_); rintro e w25 ⟨rfl, hb⟩; refine ⟨_, rfl, ?_⟩; have n0_ := Aside0.mk (blk_below (g := gb104) (o := .cells #[.bool a0_0, .bool true, .int .i64 a0_2, .bool a0_3, .bool a0_4, .bool a0_5, .bool a0_6, .int .i64 a0_7, .bool a0_8, .bool a0_9, .bool a0_10, .bool a0_11, .bool a0_12, .bool a0_13, .bool a0_14, .bool a0_15, .int .i64 a0_16] 23 (0, 0)) (by (with_reducible repeat (first | refine blk_drewN ?_ _ | refine blk_drew ?_ | refine blk_alloc ?_ _)); exact BK104.out) hb); have n1_ := Aside0.mk (below_step (by repeat (first | (with_reducible first | exact HB.out | apply below_alloc | apply pw_below_drewN | apply below_drew1 | refine below_set ?_ GE104.out) | exact HB.out)) hb); clear BK104; clear HB; have BK104 := n0_; have HB := n1_; clear n0_ n1_; (try clear hb); (try clear hb2); (try clear hk); (try clear hi)))
                        go_ret
                        exact ⟨by first | rfl | (simp [errW_none, errW_some] <;> rfl) | (simp [*, errW_none, errW_some] <;> rfl), by repeat (first | (with_reducible first | exact HB.out | apply below_alloc | apply pw_below_drewN | apply below_drew1 | refine below_set ?_ GE104.out) | exact HB.out)⟩
                      · replace c23 := Bool.eq_false_iff.mpr c23
                        subst c23
                        have H1 : (some 3) = some r := by rw [if_neg (show ¬ (false = true) by decide)] at H; exact H
                        clear H
                        have H := H1
                        clear H1
                        obtain rfl := Option.some.inj H
                        have hcz26_0 : wc.cell? ⟨gb104, 0, none⟩ = some (.bool a0_0) := (blk_cell BK104.out 0).trans rfl
                        have hcz26_1 : wc.cell? ⟨gb104, 1, none⟩ = some (.bool true) := (blk_cell BK104.out 1).trans rfl
                        have hcz26_2 : wc.cell? ⟨gb104, 2, none⟩ = some (.int .i64 a0_2) := (blk_cell BK104.out 2).trans rfl
                        have hcz26_3 : wc.cell? ⟨gb104, 3, none⟩ = some (.bool a0_3) := (blk_cell BK104.out 3).trans rfl
                        have hcz26_4 : wc.cell? ⟨gb104, 4, none⟩ = some (.bool a0_4) := (blk_cell BK104.out 4).trans rfl
                        have hcz26_5 : wc.cell? ⟨gb104, 5, none⟩ = some (.bool a0_5) := (blk_cell BK104.out 5).trans rfl
                        have hcz26_6 : wc.cell? ⟨gb104, 6, none⟩ = some (.bool a0_6) := (blk_cell BK104.out 6).trans rfl
                        have hcz26_7 : wc.cell? ⟨gb104, 7, none⟩ = some (.int .i64 a0_7) := (blk_cell BK104.out 7).trans rfl
                        have hcz26_8 : wc.cell? ⟨gb104, 8, none⟩ = some (.bool a0_8) := (blk_cell BK104.out 8).trans rfl
                        have hcz26_9 : wc.cell? ⟨gb104, 9, none⟩ = some (.bool a0_9) := (blk_cell BK104.out 9).trans rfl
                        have hcz26_10 : wc.cell? ⟨gb104, 10, none⟩ = some (.bool a0_10) := (blk_cell BK104.out 10).trans rfl
                        have hcz26_11 : wc.cell? ⟨gb104, 11, none⟩ = some (.bool a0_11) := (blk_cell BK104.out 11).trans rfl
                        have hcz26_12 : wc.cell? ⟨gb104, 12, none⟩ = some (.bool a0_12) := (blk_cell BK104.out 12).trans rfl
                        have hcz26_13 : wc.cell? ⟨gb104, 13, none⟩ = some (.bool a0_13) := (blk_cell BK104.out 13).trans rfl
                        have hcz26_14 : wc.cell? ⟨gb104, 14, none⟩ = some (.bool a0_14) := (blk_cell BK104.out 14).trans rfl
                        have hcz26_15 : wc.cell? ⟨gb104, 15, none⟩ = some (.bool a0_15) := (blk_cell BK104.out 15).trans rfl
                        have hcz26_16 : wc.cell? ⟨gb104, 16, none⟩ = some (.int .i64 a0_16) := (blk_cell BK104.out 16).trans rfl
                        have hfz26_0 := blk_frozen BK104.out 0
                        have hfz26_1 := blk_frozen BK104.out 1
                        have hfz26_2 := blk_frozen BK104.out 2
                        have hfz26_3 := blk_frozen BK104.out 3
                        have hfz26_4 := blk_frozen BK104.out 4
                        have hfz26_5 := blk_frozen BK104.out 5
                        have hfz26_6 := blk_frozen BK104.out 6
                        have hfz26_7 := blk_frozen BK104.out 7
                        have hfz26_8 := blk_frozen BK104.out 8
                        have hfz26_9 := blk_frozen BK104.out 9
                        have hfz26_10 := blk_frozen BK104.out 10
                        have hfz26_11 := blk_frozen BK104.out 11
                        have hfz26_12 := blk_frozen BK104.out 12
                        have hfz26_13 := blk_frozen BK104.out 13
                        have hfz26_14 := blk_frozen BK104.out 14
                        have hfz26_15 := blk_frozen BK104.out 15
                        have hfz26_16 := blk_frozen BK104.out 16
                        go_wp2_with (first | ((with_reducible refine gate_callee (f := 19) rfl ?_); refine goesL_ (some 31) rfl rfl Try.func19 (by kernel_rfl) rfl #[.agg #[.bool a0_0, .bool true, .int .i64 a0_2, .bool a0_3, .bool a0_4, .bool a0_5, .bool a0_6, .int .i64 a0_7, .bool a0_8, .bool a0_9, .bool a0_10, .bool a0_11, .bool a0_12, .bool a0_13, .bool a0_14, .bool a0_15, .int .i64 a0_16]] rfl (by (try simp only [List.map_toArray, List.map_cons, List.map_nil]); first | done | rfl | (simp only [List.length_drop, List.length_take]; rfl)) ?_; (with_reducible refine (estoversref26_form.calls a0_0 true a0_2 a0_3 a0_4 a0_5 a0_6 a0_7 a0_8 a0_9 a0_10 a0_11 a0_12 a0_13 a0_14 a0_15 a0_16 false _ A22.out).mono ?_); rintro e w27 ⟨rfl, hb⟩; refine ⟨_, rfl, ?_⟩; have n0_ := Aside0.mk (blk_below (g := gb104) (o := .cells #[.bool a0_0, .bool true, .int .i64 a0_2, .bool a0_3, .bool a0_4, .bool a0_5, .bool a0_6, .int .i64 a0_7, .bool a0_8, .bool a0_9, .bool a0_10, .bool a0_11, .bool a0_12, .bool a0_13, .bool a0_14, .bool a0_15, .int .i64 a0_16] 23 (0, 0)) (by (with_reducible repeat (first | refine blk_drewN ?_ _ | refine blk_drew ?_ | refine blk_alloc ?_ _)); exact BK104.out) hb); have n1_ := Aside0.mk (below_step (by repeat (first | (with_reducible first | exact HB.out | apply below_alloc | apply pw_below_drewN | apply below_drew1 | refine below_set ?_ GE104.out) | exact HB.out)) hb); clear BK104; clear HB; have BK104 := n0_; have HB := n1_; clear n0_ n1_; (try clear hb); (try clear hb2); (try clear hk); (try clear hi)))
                        go_ret
                        exact ⟨by first | rfl | (simp [errW_none, errW_some] <;> rfl) | (simp [*, errW_none, errW_some] <;> rfl), by repeat (first | (with_reducible first | exact HB.out | apply below_alloc | apply pw_below_drewN | apply below_drew1 | refine below_set ?_ GE104.out) | exact HB.out)⟩
              · replace c13 := Bool.eq_false_iff.mpr c13
                subst c13
                have H1 : (some 0) = some r := by rw [if_neg (show ¬ (false = true) by decide)] at H; exact H
                clear H
                have H := H1
                clear H1
                obtain rfl := Option.some.inj H
                have hcz28_0 : wc.cell? ⟨gb104, 0, none⟩ = some (.bool a0_0) := (blk_cell BK104.out 0).trans rfl
                have hcz28_1 : wc.cell? ⟨gb104, 1, none⟩ = some (.bool false) := (blk_cell BK104.out 1).trans rfl
                have hcz28_2 : wc.cell? ⟨gb104, 2, none⟩ = some (.int .i64 a0_2) := (blk_cell BK104.out 2).trans rfl
                have hcz28_3 : wc.cell? ⟨gb104, 3, none⟩ = some (.bool a0_3) := (blk_cell BK104.out 3).trans rfl
                have hcz28_4 : wc.cell? ⟨gb104, 4, none⟩ = some (.bool a0_4) := (blk_cell BK104.out 4).trans rfl
                have hcz28_5 : wc.cell? ⟨gb104, 5, none⟩ = some (.bool a0_5) := (blk_cell BK104.out 5).trans rfl
                have hcz28_6 : wc.cell? ⟨gb104, 6, none⟩ = some (.bool a0_6) := (blk_cell BK104.out 6).trans rfl
                have hcz28_7 : wc.cell? ⟨gb104, 7, none⟩ = some (.int .i64 a0_7) := (blk_cell BK104.out 7).trans rfl
                have hcz28_8 : wc.cell? ⟨gb104, 8, none⟩ = some (.bool a0_8) := (blk_cell BK104.out 8).trans rfl
                have hcz28_9 : wc.cell? ⟨gb104, 9, none⟩ = some (.bool a0_9) := (blk_cell BK104.out 9).trans rfl
                have hcz28_10 : wc.cell? ⟨gb104, 10, none⟩ = some (.bool a0_10) := (blk_cell BK104.out 10).trans rfl
                have hcz28_11 : wc.cell? ⟨gb104, 11, none⟩ = some (.bool a0_11) := (blk_cell BK104.out 11).trans rfl
                have hcz28_12 : wc.cell? ⟨gb104, 12, none⟩ = some (.bool a0_12) := (blk_cell BK104.out 12).trans rfl
                have hcz28_13 : wc.cell? ⟨gb104, 13, none⟩ = some (.bool a0_13) := (blk_cell BK104.out 13).trans rfl
                have hcz28_14 : wc.cell? ⟨gb104, 14, none⟩ = some (.bool a0_14) := (blk_cell BK104.out 14).trans rfl
                have hcz28_15 : wc.cell? ⟨gb104, 15, none⟩ = some (.bool a0_15) := (blk_cell BK104.out 15).trans rfl
                have hcz28_16 : wc.cell? ⟨gb104, 16, none⟩ = some (.int .i64 a0_16) := (blk_cell BK104.out 16).trans rfl
                have hfz28_0 := blk_frozen BK104.out 0
                have hfz28_1 := blk_frozen BK104.out 1
                have hfz28_2 := blk_frozen BK104.out 2
                have hfz28_3 := blk_frozen BK104.out 3
                have hfz28_4 := blk_frozen BK104.out 4
                have hfz28_5 := blk_frozen BK104.out 5
                have hfz28_6 := blk_frozen BK104.out 6
                have hfz28_7 := blk_frozen BK104.out 7
                have hfz28_8 := blk_frozen BK104.out 8
                have hfz28_9 := blk_frozen BK104.out 9
                have hfz28_10 := blk_frozen BK104.out 10
                have hfz28_11 := blk_frozen BK104.out 11
                have hfz28_12 := blk_frozen BK104.out 12
                have hfz28_13 := blk_frozen BK104.out 13
                have hfz28_14 := blk_frozen BK104.out 14
                have hfz28_15 := blk_frozen BK104.out 15
                have hfz28_16 := blk_frozen BK104.out 16
                go_wp2
                go_ret
                exact ⟨by first | rfl | (simp [errW_none, errW_some] <;> rfl) | (simp [*, errW_none, errW_some] <;> rfl), by repeat (first | (with_reducible first | exact HB.out | apply below_alloc | apply pw_below_drewN | apply below_drew1 | refine below_set ?_ GE104.out) | exact HB.out)⟩

end Go.Proofs.Ytfobedaepflidaa.F

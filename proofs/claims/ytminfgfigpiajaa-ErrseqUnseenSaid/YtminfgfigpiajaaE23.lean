-- Written by a program of this session (own_print.py) that runs the kit's printer. Lean checks it.
import Derived.Test.YtminfgfigpiajaaE0
import Derived.Test.YtminfgfigpiajaaE7
import Derived.Test.YtminfgfigpiajaaE8
import Derived.Test.YtminfgfigpiajaaE9
namespace Go.Proofs.Ytminfgfigpiajaa.E
open Go.RowKit Go.Proofs.YtminfgfigpiajaaW.PrintWords Go.Proofs.YtminfgfigpiajaaW.PrintLast Go.Proofs.YtminfgfigpiajaaW.PrintMore
attribute [local go_sem] max2_int min2_int max_two min_two max_three min_three max_four min_four   -- for this text's walks alone
set_option linter.unusedVariables false
set_option linter.unusedSimpArgs false

/-! ### estoverslaw29_ErrseqUnseen: function 8 -/
def estoverslaw29_ErrseqUnseen.j0 : Nat → Bool → Int → Bool → Option (Bool)
  | 0, _, _, _ => none
  | k + 1, x54, x230000, x230001 => if x54 = true then (some false) else ((errseq_Sample.f x230000 x230001).bind fun bt230 => ((errseq_Check.f k x230000 x230001 bt230.1).bind fun bt232 => (if bt232.2.2.2 = 0 then ((estoverslaw29_awake.f k).bind fun t237 => (some t237)) else (some false))))
def estoverslaw29_ErrseqUnseen.f (k : Nat) (a0_0 : Int) (a0_1 : Bool) : Option (Bool) := (errseq_Sample.f a0_0 a0_1).bind fun bt222 => (if bt222.2 = 0 then ((errseq_Check.f k a0_0 a0_1 bt222.1).bind fun bt225 => (if a0_0 > 0 then (if bt225.2.2.2 = 15 then (if a0_1 = true then (estoverslaw29_ErrseqUnseen.j0 k true bt225.1 bt225.2.1) else (if bt225.2.2.2 = 0 then (estoverslaw29_ErrseqUnseen.j0 k false bt225.1 bt225.2.1) else (estoverslaw29_ErrseqUnseen.j0 k (bt225.2.2.2 != 15) bt225.1 bt225.2.1))) else (if a0_1 = true then (if bt225.2.2.2 = 0 then (estoverslaw29_ErrseqUnseen.j0 k false bt225.1 bt225.2.1) else (estoverslaw29_ErrseqUnseen.j0 k (bt225.2.2.2 != 15) bt225.1 bt225.2.1)) else (estoverslaw29_ErrseqUnseen.j0 k true bt225.1 bt225.2.1))) else (if bt225.2.2.2 = 15 then (estoverslaw29_ErrseqUnseen.j0 k true bt225.1 bt225.2.1) else (if bt225.2.2.2 = 0 then (estoverslaw29_ErrseqUnseen.j0 k false bt225.1 bt225.2.1) else (estoverslaw29_ErrseqUnseen.j0 k (bt225.2.2.2 != 15) bt225.1 bt225.2.1))))) else (if bt222.2 = 1 then (if bt222.1 = 0 then ((estoverslaw29_awake.f k).bind fun t224 => (some t224)) else (some false)) else (some false)))
theorem estoverslaw29_ErrseqUnseen.mono_l : ∀ k, (∀ y0 y1 y2, LeO (estoverslaw29_ErrseqUnseen.j0 k y0 y1 y2) (estoverslaw29_ErrseqUnseen.j0 (k + 1) y0 y1 y2))
  | 0 => fun _ _ _ r h => by simp [estoverslaw29_ErrseqUnseen.j0] at h
  | k + 1 => by
    have ih0 := estoverslaw29_ErrseqUnseen.mono_l k
    · intro y0 y1 y2
      unfold estoverslaw29_ErrseqUnseen.j0
      repeat' first
      | (with_reducible exact ih0 _ _ _)
      | (with_reducible exact errseq_Check.mono _ _ _ _)
      | (with_reducible exact estoverslaw29_awake.mono _)
      | (with_reducible exact LeO.refl _)
      | (with_reducible exact LeO.none _)
      | (with_reducible refine LeO.ite ?_ ?_)
      | (with_reducible refine LeO.bind ?_ (fun _ => ?_))
      | exact ih0 _ _ _
      | exact errseq_Check.mono _ _ _ _
      | exact estoverslaw29_awake.mono _
      | exact LeO.none _
      | refine LeO.ite ?_ ?_
      | refine LeO.bind ?_ (fun _ => ?_)
theorem estoverslaw29_ErrseqUnseen.mono : ∀ a0 a1 k, LeO (estoverslaw29_ErrseqUnseen.f k a0 a1) (estoverslaw29_ErrseqUnseen.f (k + 1) a0 a1) := by
  intro a0 a1 k
  have ih0 := estoverslaw29_ErrseqUnseen.mono_l k
  unfold estoverslaw29_ErrseqUnseen.f
  repeat' first
      | (with_reducible exact ih0 _ _ _)
      | (with_reducible exact errseq_Check.mono _ _ _ _)
      | (with_reducible exact estoverslaw29_awake.mono _)
      | (with_reducible exact LeO.refl _)
      | (with_reducible exact LeO.none _)
      | (with_reducible refine LeO.ite ?_ ?_)
      | (with_reducible refine LeO.bind ?_ (fun _ => ?_))
      | exact ih0 _ _ _
      | exact errseq_Check.mono _ _ _ _
      | exact estoverslaw29_awake.mono _
      | exact LeO.none _
      | refine LeO.ite ?_ ?_
      | refine LeO.bind ?_ (fun _ => ?_)
set_option maxHeartbeats 8000000 in
set_option maxRecDepth 100000 in
theorem estoverslaw29_ErrseqUnseen.calls (k : Nat) (a0_0 : Int) (a0_1 : Bool) (r : Bool) (w : World) (h : estoverslaw29_ErrseqUnseen.f k a0_0 a0_1 = some r) :
    Calls Try.prog 8 #[.agg #[.int .i64 a0_0, .bool a0_1]] w fun e w' => e = .returned (.bool r) ∧ Below w.heap.size w w' := by
  have hu23 := Try.underlying23
  have HB := Aside0.mk (Below.refl w.heap.size w)
  have H : ((errseq_Sample.f a0_0 a0_1).bind fun bt222 => (if bt222.2 = 0 then ((errseq_Check.f k a0_0 a0_1 bt222.1).bind fun bt225 => (if a0_0 > 0 then (if bt225.2.2.2 = 15 then (if a0_1 = true then (estoverslaw29_ErrseqUnseen.j0 k true bt225.1 bt225.2.1) else (if bt225.2.2.2 = 0 then (estoverslaw29_ErrseqUnseen.j0 k false bt225.1 bt225.2.1) else (estoverslaw29_ErrseqUnseen.j0 k (bt225.2.2.2 != 15) bt225.1 bt225.2.1))) else (if a0_1 = true then (if bt225.2.2.2 = 0 then (estoverslaw29_ErrseqUnseen.j0 k false bt225.1 bt225.2.1) else (estoverslaw29_ErrseqUnseen.j0 k (bt225.2.2.2 != 15) bt225.1 bt225.2.1)) else (estoverslaw29_ErrseqUnseen.j0 k true bt225.1 bt225.2.1))) else (if bt225.2.2.2 = 15 then (estoverslaw29_ErrseqUnseen.j0 k true bt225.1 bt225.2.1) else (if bt225.2.2.2 = 0 then (estoverslaw29_ErrseqUnseen.j0 k false bt225.1 bt225.2.1) else (estoverslaw29_ErrseqUnseen.j0 k (bt225.2.2.2 != 15) bt225.1 bt225.2.1))))) else (if bt222.2 = 1 then (if bt222.1 = 0 then ((estoverslaw29_awake.f k).bind fun t224 => (some t224)) else (some false)) else (some false)))) = some r := h
  clear h
  replace H := Option.bind_eq_some_iff.mp H
  obtain ⟨⟨t222, t223⟩, A20, H⟩ := H
  replace H : (if t223 = 0 then ((errseq_Check.f k a0_0 a0_1 t222).bind fun bt225 => (if a0_0 > 0 then (if bt225.2.2.2 = 15 then (if a0_1 = true then (estoverslaw29_ErrseqUnseen.j0 k true bt225.1 bt225.2.1) else (if bt225.2.2.2 = 0 then (estoverslaw29_ErrseqUnseen.j0 k false bt225.1 bt225.2.1) else (estoverslaw29_ErrseqUnseen.j0 k (bt225.2.2.2 != 15) bt225.1 bt225.2.1))) else (if a0_1 = true then (if bt225.2.2.2 = 0 then (estoverslaw29_ErrseqUnseen.j0 k false bt225.1 bt225.2.1) else (estoverslaw29_ErrseqUnseen.j0 k (bt225.2.2.2 != 15) bt225.1 bt225.2.1)) else (estoverslaw29_ErrseqUnseen.j0 k true bt225.1 bt225.2.1))) else (if bt225.2.2.2 = 15 then (estoverslaw29_ErrseqUnseen.j0 k true bt225.1 bt225.2.1) else (if bt225.2.2.2 = 0 then (estoverslaw29_ErrseqUnseen.j0 k false bt225.1 bt225.2.1) else (estoverslaw29_ErrseqUnseen.j0 k (bt225.2.2.2 != 15) bt225.1 bt225.2.1))))) else (if t223 = 1 then (if t222 = 0 then ((estoverslaw29_awake.f k).bind fun t224 => (some t224)) else (some false)) else (some false))) = some r := H
  have A2 := Aside0.mk A20
  clear A20
  by_cases c3 : t223 = 0
  · rw [if_pos c3] at H
    have c3b0 : (t223 == 0) = true := beq_iff_eq.mpr c3
    have c3b1 : (t223 != 0) = false := bne_eq_false_iff_eq.mpr c3
    clear c3
    replace H := Option.bind_eq_some_iff.mp H
    obtain ⟨⟨t225, t226, t227, t228⟩, A40, H⟩ := H
    replace H : (if a0_0 > 0 then (if t228 = 15 then (if a0_1 = true then (estoverslaw29_ErrseqUnseen.j0 k true t225 t226) else (if t228 = 0 then (estoverslaw29_ErrseqUnseen.j0 k false t225 t226) else (estoverslaw29_ErrseqUnseen.j0 k (t228 != 15) t225 t226))) else (if a0_1 = true then (if t228 = 0 then (estoverslaw29_ErrseqUnseen.j0 k false t225 t226) else (estoverslaw29_ErrseqUnseen.j0 k (t228 != 15) t225 t226)) else (estoverslaw29_ErrseqUnseen.j0 k true t225 t226))) else (if t228 = 15 then (estoverslaw29_ErrseqUnseen.j0 k true t225 t226) else (if t228 = 0 then (estoverslaw29_ErrseqUnseen.j0 k false t225 t226) else (estoverslaw29_ErrseqUnseen.j0 k (t228 != 15) t225 t226)))) = some r := H
    have A4 := Aside0.mk A40
    clear A40
    have HC5 := Aside0.mk H
    clear H
    go_enter Try.func8, Try.ntmps8
    go_upto_region 5 with (first | ((with_reducible refine gate_dst (N := 1) rfl ?_); refine box_event ?hg (N := 1) ?hd (cs := #[.int .i64 a0_0, .bool a0_1]) (t := 23) ?hr ?_; (case hd => rfl); (case hg => rfl); (case hr => first | (go_simp; done) | (go_simp; rfl)); intro gb221 hg w6 hbox hb; have n0_ := Aside0.mk (below_step (by repeat (first | (with_reducible first | exact HB.out | apply below_alloc | apply pw_below_drewN | apply below_drew1) | exact HB.out)) hb); have n1_ := Aside0.mk (hbox); have n2_ := Aside0.mk ((by rw [hg]; exact (below_size (by repeat (first | (with_reducible first | exact HB.out | apply below_alloc | apply pw_below_drewN | apply below_drew1) | exact HB.out))) : w.heap.size ≤ gb221)); have n3_ := Aside0.mk ((by rw [hg]; exact (below_size (by repeat (first | (with_reducible first | exact HB.out | apply below_alloc | apply pw_below_drewN | apply below_drew1) | exact HB.out))) : w.heap.size ≤ gb221)); clear HB; have HB := n0_; have BK221 := n1_; have GW221 := n2_; have GE221 := n3_; clear n0_ n1_ n2_ n3_; clear hb hbox hg; have hcz7_0 : w6.cell? ⟨gb221, 0, none⟩ = some (.int .i64 a0_0) := (blk_cell BK221.out 0).trans rfl; have hcz7_1 : w6.cell? ⟨gb221, 1, none⟩ = some (.bool a0_1) := (blk_cell BK221.out 1).trans rfl; have hfz7_0 := blk_frozen BK221.out 0; have hfz7_1 := blk_frozen BK221.out 1) | ((with_reducible refine gate_callee (f := 15) rfl ?_); refine goesL_ (some 15) rfl rfl Try.func15 (by kernel_rfl) rfl #[.agg #[.int .i64 a0_0, .bool a0_1]] rfl (by (try simp only [List.map_toArray, List.map_cons, List.map_nil]); first | done | rfl | (simp only [List.length_drop, List.length_take]; rfl)) ?_; (with_reducible refine (errseq_Sample.calls a0_0 a0_1 t222 t223 _ A2.out).mono ?_); rintro e w8 ⟨rfl, hb⟩; refine ⟨_, rfl, ?_⟩; have n0_ := Aside0.mk (blk_below (g := gb221) (o := .cells #[.int .i64 a0_0, .bool a0_1] 23 (0, 0)) (by (with_reducible repeat (first | refine blk_drewN ?_ _ | refine blk_drew ?_ | refine blk_alloc ?_ _)); exact BK221.out) hb); have n1_ := Aside0.mk (below_step (by repeat (first | (with_reducible first | exact HB.out | apply below_alloc | apply pw_below_drewN | apply below_drew1 | refine below_set ?_ GE221.out) | exact HB.out)) hb); clear BK221; clear HB; have BK221 := n0_; have HB := n1_; clear n0_ n1_; (try clear hb); (try clear hb2); (try clear hk); (try clear hi); have hcz9_0 : w8.cell? ⟨gb221, 0, none⟩ = some (.int .i64 a0_0) := (blk_cell BK221.out 0).trans rfl; have hcz9_1 : w8.cell? ⟨gb221, 1, none⟩ = some (.bool a0_1) := (blk_cell BK221.out 1).trans rfl; have hfz9_0 := blk_frozen BK221.out 0; have hfz9_1 := blk_frozen BK221.out 1) | ((with_reducible refine gate_callee (f := 17) rfl ?_); refine goesL_ (some 32) rfl rfl Try.func17 (by kernel_rfl) rfl #[.agg #[.int .i64 a0_0, .bool a0_1], .int .i64 t222] rfl (by (try simp only [List.map_toArray, List.map_cons, List.map_nil]); first | done | rfl | (simp only [List.length_drop, List.length_take]; rfl)) ?_; (with_reducible refine (errseq_Check.calls k a0_0 a0_1 t222 t225 t226 t227 t228 _ A4.out).mono ?_); rintro e w10 ⟨rfl, hb⟩; refine ⟨_, rfl, ?_⟩; have n0_ := Aside0.mk (blk_below (g := gb221) (o := .cells #[.int .i64 a0_0, .bool a0_1] 23 (0, 0)) (by (with_reducible repeat (first | refine blk_drewN ?_ _ | refine blk_drew ?_ | refine blk_alloc ?_ _)); exact BK221.out) hb); have n1_ := Aside0.mk (below_step (by repeat (first | (with_reducible first | exact HB.out | apply below_alloc | apply pw_below_drewN | apply below_drew1 | refine below_set ?_ GE221.out) | exact HB.out)) hb); clear BK221; clear HB; have BK221 := n0_; have HB := n1_; clear n0_ n1_; (try clear hb); (try clear hb2); (try clear hk); (try clear hi)) | ((with_reducible refine gate_dst (N := 5) rfl ?_); refine box_event ?hg (N := 5) ?hd (cs := #[.int .i64 0, .bool false]) (t := 23) ?hr ?_; (case hd => rfl); (case hg => rfl); (case hr => first | (go_simp; done) | (go_simp; rfl)); intro gb229 hg w11 hbox hb; have n0_ := Aside0.mk (blk_below (g := gb221) (o := .cells #[.int .i64 a0_0, .bool a0_1] 23 (0, 0)) (by (with_reducible repeat (first | refine blk_drewN ?_ _ | refine blk_drew ?_ | refine blk_alloc ?_ _)); exact BK221.out) hb); have n1_ := Aside0.mk (below_step (by repeat (first | (with_reducible first | exact HB.out | apply below_alloc | apply pw_below_drewN | apply below_drew1 | refine below_set ?_ GE221.out) | exact HB.out)) hb); have n2_ := Aside0.mk (hbox); have n3_ := Aside0.mk ((by rw [hg]; exact (below_size (by repeat (first | (with_reducible first | exact HB.out | apply below_alloc | apply pw_below_drewN | apply below_drew1 | refine below_set ?_ GE221.out) | exact HB.out))) : w.heap.size ≤ gb229)); have n4_ := Aside0.mk ((by rw [hg]; exact (below_size (by repeat (first | (with_reducible first | exact HB.out | apply below_alloc | apply pw_below_drewN | apply below_drew1 | refine below_set ?_ GE221.out) | exact HB.out))) : w.heap.size ≤ gb229)); have n5_ := Aside0.mk ((by rw [hg]; exact Nat.ne_of_lt (blk_lt (g := gb221) (o := .cells #[.int .i64 a0_0, .bool a0_1] 23 (0, 0)) (by (with_reducible repeat (first | refine blk_drewN ?_ _ | refine blk_drew ?_ | refine blk_alloc ?_ _)); exact BK221.out)) : gb221 ≠ gb229)); have n6_ := Aside0.mk ((by rw [hg]; exact Nat.ne_of_gt (blk_lt (g := gb221) (o := .cells #[.int .i64 a0_0, .bool a0_1] 23 (0, 0)) (by (with_reducible repeat (first | refine blk_drewN ?_ _ | refine blk_drew ?_ | refine blk_alloc ?_ _)); exact BK221.out)) : gb229 ≠ gb221)); clear BK221; clear HB; have BK221 := n0_; have HB := n1_; have BK229 := n2_; have GW229 := n3_; have GE229 := n4_; have NB221_229 := n5_; have NB229_221 := n6_; clear n0_ n1_ n2_ n3_ n4_ n5_ n6_; clear hb hbox hg; have hnb12 := NB229_221.out; have hnc12 := NB221_229.out; have hcz13_0 : w11.cell? ⟨gb229, 0, none⟩ = some (.int .i64 0) := (blk_cell BK229.out 0).trans rfl; have hcz13_1 : w11.cell? ⟨gb229, 1, none⟩ = some (.bool false) := (blk_cell BK229.out 1).trans rfl; have hfz13_0 := blk_frozen BK229.out 0; have hfz13_1 := blk_frozen BK229.out 1))
    (try simp only [Act.put, List.setIfInBounds_toArray, List.set_cons_zero, List.set_cons_succ])
    go_cut [54] (fun v54 wc => ∃ (kq : Nat) (x54_4 : Bool), v54 = .bool x54_4 ∧ Aside0 (estoverslaw29_ErrseqUnseen.j0 kq x54_4 t225 t226 = some r) ∧ Aside0 (kq ≤ k) ∧ Aside0 (wc.heap[gb221]? = some (.cells #[.int .i64 a0_0, .bool a0_1] 23 (0, 0))) ∧ Aside0 (wc.heap[gb229]? = some (.cells #[.int .i64 t225, .bool t226] 23 (0, 0))) ∧ Aside0 (Below w.heap.size w wc))
    case first =>
      have H := HC5.out
      clear HC5
      by_cases c14 : a0_0 > 0
      · rw [if_pos c14] at H
        have c14b0 : decide (0 < a0_0) = true := decide_eq_true c14
        clear c14
        (first | rw [c14b0] | (simp only [i64_w, i32_w]; rw [c14b0]) | skip)
        by_cases c15 : t228 = 15
        · rw [if_pos c15] at H
          have c15b0 : (t228 == 15) = true := beq_iff_eq.mpr c15
          have c15b1 : (t228 != 15) = false := bne_eq_false_iff_eq.mpr c15
          clear c15
          by_cases c16 : a0_1 = true
          · subst c16
            have H1 : (estoverslaw29_ErrseqUnseen.j0 k true t225 t226) = some r := by rw [if_pos rfl] at H; exact H
            clear H
            have H := H1
            clear H1
            have H' := Aside0.mk H
            clear H
            have hnb17 := NB221_229.out
            have hnc17 := NB229_221.out
            have hcz18_0 : w11.cell? ⟨gb221, 0, none⟩ = some (.int .i64 a0_0) := (blk_cell BK221.out 0).trans rfl
            have hcz18_1 : w11.cell? ⟨gb221, 1, none⟩ = some (.bool true) := (blk_cell BK221.out 1).trans rfl
            have hfz18_0 := blk_frozen BK221.out 0
            have hfz18_1 := blk_frozen BK221.out 1
            go_wp2
            go_meet
            case rel => exact ⟨_, (true), (by first | rfl | (simp; done) | (simp [*]; done)), H', ⟨by first | omega | exact Nat.le_refl _⟩, ⟨by (with_reducible repeat (first | refine blk_drewN ?_ _ | refine blk_drew ?_ | refine blk_alloc ?_ _)); refine blk_far ?_ NB221_229.out _; (with_reducible repeat (first | refine blk_drewN ?_ _ | refine blk_drew ?_ | refine blk_alloc ?_ _)); refine blk_far ?_ NB221_229.out _; (with_reducible repeat (first | refine blk_drewN ?_ _ | refine blk_drew ?_ | refine blk_alloc ?_ _)); exact BK221.out⟩, ⟨by (with_reducible repeat (first | refine blk_drewN ?_ _ | refine blk_drew ?_ | refine blk_alloc ?_ _)); refine blk_put (cs := #[.int .i64 t225, .bool false]) ?_ 1 _ rfl; (with_reducible repeat (first | refine blk_drewN ?_ _ | refine blk_drew ?_ | refine blk_alloc ?_ _)); refine blk_put (cs := #[.int .i64 0, .bool false]) ?_ 0 _ rfl; (with_reducible repeat (first | refine blk_drewN ?_ _ | refine blk_drew ?_ | refine blk_alloc ?_ _)); exact BK229.out⟩, ⟨by repeat (first | (with_reducible first | exact HB.out | apply below_alloc | apply pw_below_drewN | apply below_drew1 | refine below_set ?_ GE221.out | refine below_set ?_ GE229.out) | exact HB.out)⟩⟩
          · replace c16 := Bool.eq_false_iff.mpr c16
            subst c16
            have H1 : (if t228 = 0 then (estoverslaw29_ErrseqUnseen.j0 k false t225 t226) else (estoverslaw29_ErrseqUnseen.j0 k (t228 != 15) t225 t226)) = some r := by rw [if_neg (show ¬ (false = true) by decide)] at H; exact H
            clear H
            have H := H1
            clear H1
            by_cases c19 : t228 = 0
            · rw [if_pos c19] at H
              have c19b0 : (t228 == 0) = true := beq_iff_eq.mpr c19
              have c19b1 : (t228 != 0) = false := bne_eq_false_iff_eq.mpr c19
              clear c19
              have H' := Aside0.mk H
              clear H
              have hnb20 := NB221_229.out
              have hnc20 := NB229_221.out
              have hcz21_0 : w11.cell? ⟨gb221, 0, none⟩ = some (.int .i64 a0_0) := (blk_cell BK221.out 0).trans rfl
              have hcz21_1 : w11.cell? ⟨gb221, 1, none⟩ = some (.bool false) := (blk_cell BK221.out 1).trans rfl
              have hfz21_0 := blk_frozen BK221.out 0
              have hfz21_1 := blk_frozen BK221.out 1
              go_wp2
              go_meet
              case rel => exact ⟨_, (false), (by first | rfl | (simp; done) | (simp [*]; done)), H', ⟨by first | omega | exact Nat.le_refl _⟩, ⟨by (with_reducible repeat (first | refine blk_drewN ?_ _ | refine blk_drew ?_ | refine blk_alloc ?_ _)); refine blk_far ?_ NB221_229.out _; (with_reducible repeat (first | refine blk_drewN ?_ _ | refine blk_drew ?_ | refine blk_alloc ?_ _)); refine blk_far ?_ NB221_229.out _; (with_reducible repeat (first | refine blk_drewN ?_ _ | refine blk_drew ?_ | refine blk_alloc ?_ _)); exact BK221.out⟩, ⟨by (with_reducible repeat (first | refine blk_drewN ?_ _ | refine blk_drew ?_ | refine blk_alloc ?_ _)); refine blk_put (cs := #[.int .i64 t225, .bool false]) ?_ 1 _ rfl; (with_reducible repeat (first | refine blk_drewN ?_ _ | refine blk_drew ?_ | refine blk_alloc ?_ _)); refine blk_put (cs := #[.int .i64 0, .bool false]) ?_ 0 _ rfl; (with_reducible repeat (first | refine blk_drewN ?_ _ | refine blk_drew ?_ | refine blk_alloc ?_ _)); exact BK229.out⟩, ⟨by repeat (first | (with_reducible first | exact HB.out | apply below_alloc | apply pw_below_drewN | apply below_drew1 | refine below_set ?_ GE221.out | refine below_set ?_ GE229.out) | exact HB.out)⟩⟩
            · rw [if_neg c19] at H
              have c19b0 : (t228 == 0) = false := beq_eq_false_iff_ne.mpr c19
              have c19b1 : (t228 != 0) = true := bne_iff_ne.mpr c19
              have H' := Aside0.mk H
              clear H
              have hnb22 := NB221_229.out
              have hnc22 := NB229_221.out
              have hcz23_0 : w11.cell? ⟨gb221, 0, none⟩ = some (.int .i64 a0_0) := (blk_cell BK221.out 0).trans rfl
              have hcz23_1 : w11.cell? ⟨gb221, 1, none⟩ = some (.bool false) := (blk_cell BK221.out 1).trans rfl
              have hfz23_0 := blk_frozen BK221.out 0
              have hfz23_1 := blk_frozen BK221.out 1
              go_wp2
              go_meet
              case rel => exact ⟨_, ((t228 != 15)), (by first | rfl | (simp; done) | (simp [*]; done)), H', ⟨by first | omega | exact Nat.le_refl _⟩, ⟨by (with_reducible repeat (first | refine blk_drewN ?_ _ | refine blk_drew ?_ | refine blk_alloc ?_ _)); refine blk_far ?_ NB221_229.out _; (with_reducible repeat (first | refine blk_drewN ?_ _ | refine blk_drew ?_ | refine blk_alloc ?_ _)); refine blk_far ?_ NB221_229.out _; (with_reducible repeat (first | refine blk_drewN ?_ _ | refine blk_drew ?_ | refine blk_alloc ?_ _)); exact BK221.out⟩, ⟨by (with_reducible repeat (first | refine blk_drewN ?_ _ | refine blk_drew ?_ | refine blk_alloc ?_ _)); refine blk_put (cs := #[.int .i64 t225, .bool false]) ?_ 1 _ rfl; (with_reducible repeat (first | refine blk_drewN ?_ _ | refine blk_drew ?_ | refine blk_alloc ?_ _)); refine blk_put (cs := #[.int .i64 0, .bool false]) ?_ 0 _ rfl; (with_reducible repeat (first | refine blk_drewN ?_ _ | refine blk_drew ?_ | refine blk_alloc ?_ _)); exact BK229.out⟩, ⟨by repeat (first | (with_reducible first | exact HB.out | apply below_alloc | apply pw_below_drewN | apply below_drew1 | refine below_set ?_ GE221.out | refine below_set ?_ GE229.out) | exact HB.out)⟩⟩
        · rw [if_neg c15] at H
          have c15b0 : (t228 == 15) = false := beq_eq_false_iff_ne.mpr c15
          have c15b1 : (t228 != 15) = true := bne_iff_ne.mpr c15
          by_cases c24 : a0_1 = true
          · subst c24
            have H1 : (if t228 = 0 then (estoverslaw29_ErrseqUnseen.j0 k false t225 t226) else (estoverslaw29_ErrseqUnseen.j0 k (t228 != 15) t225 t226)) = some r := by rw [if_pos rfl] at H; exact H
            clear H
            have H := H1
            clear H1
            by_cases c25 : t228 = 0
            · rw [if_pos c25] at H
              have c25b0 : (t228 == 0) = true := beq_iff_eq.mpr c25
              have c25b1 : (t228 != 0) = false := bne_eq_false_iff_eq.mpr c25
              clear c25
              have H' := Aside0.mk H
              clear H
              have hnb26 := NB221_229.out
              have hnc26 := NB229_221.out
              have hcz27_0 : w11.cell? ⟨gb221, 0, none⟩ = some (.int .i64 a0_0) := (blk_cell BK221.out 0).trans rfl
              have hcz27_1 : w11.cell? ⟨gb221, 1, none⟩ = some (.bool true) := (blk_cell BK221.out 1).trans rfl
              have hfz27_0 := blk_frozen BK221.out 0
              have hfz27_1 := blk_frozen BK221.out 1
              go_wp2
              go_meet
              case rel => exact ⟨_, (false), (by first | rfl | (simp; done) | (simp [*]; done)), H', ⟨by first | omega | exact Nat.le_refl _⟩, ⟨by (with_reducible repeat (first | refine blk_drewN ?_ _ | refine blk_drew ?_ | refine blk_alloc ?_ _)); refine blk_far ?_ NB221_229.out _; (with_reducible repeat (first | refine blk_drewN ?_ _ | refine blk_drew ?_ | refine blk_alloc ?_ _)); refine blk_far ?_ NB221_229.out _; (with_reducible repeat (first | refine blk_drewN ?_ _ | refine blk_drew ?_ | refine blk_alloc ?_ _)); exact BK221.out⟩, ⟨by (with_reducible repeat (first | refine blk_drewN ?_ _ | refine blk_drew ?_ | refine blk_alloc ?_ _)); refine blk_put (cs := #[.int .i64 t225, .bool false]) ?_ 1 _ rfl; (with_reducible repeat (first | refine blk_drewN ?_ _ | refine blk_drew ?_ | refine blk_alloc ?_ _)); refine blk_put (cs := #[.int .i64 0, .bool false]) ?_ 0 _ rfl; (with_reducible repeat (first | refine blk_drewN ?_ _ | refine blk_drew ?_ | refine blk_alloc ?_ _)); exact BK229.out⟩, ⟨by repeat (first | (with_reducible first | exact HB.out | apply below_alloc | apply pw_below_drewN | apply below_drew1 | refine below_set ?_ GE221.out | refine below_set ?_ GE229.out) | exact HB.out)⟩⟩
            · rw [if_neg c25] at H
              have c25b0 : (t228 == 0) = false := beq_eq_false_iff_ne.mpr c25
              have c25b1 : (t228 != 0) = true := bne_iff_ne.mpr c25
              have H' := Aside0.mk H
              clear H
              have hnb28 := NB221_229.out
              have hnc28 := NB229_221.out
              have hcz29_0 : w11.cell? ⟨gb221, 0, none⟩ = some (.int .i64 a0_0) := (blk_cell BK221.out 0).trans rfl
              have hcz29_1 : w11.cell? ⟨gb221, 1, none⟩ = some (.bool true) := (blk_cell BK221.out 1).trans rfl
              have hfz29_0 := blk_frozen BK221.out 0
              have hfz29_1 := blk_frozen BK221.out 1
              go_wp2
              go_meet
              case rel => exact ⟨_, ((t228 != 15)), (by first | rfl | (simp; done) | (simp [*]; done)), H', ⟨by first | omega | exact Nat.le_refl _⟩, ⟨by (with_reducible repeat (first | refine blk_drewN ?_ _ | refine blk_drew ?_ | refine blk_alloc ?_ _)); refine blk_far ?_ NB221_229.out _; (with_reducible repeat (first | refine blk_drewN ?_ _ | refine blk_drew ?_ | refine blk_alloc ?_ _)); refine blk_far ?_ NB221_229.out _; (with_reducible repeat (first | refine blk_drewN ?_ _ | refine blk_drew ?_ | refine blk_alloc ?_ _)); exact BK221.out⟩, ⟨by (with_reducible repeat (first | refine blk_drewN ?_ _ | refine blk_drew ?_ | refine blk_alloc ?_ _)); refine blk_put (cs := #[.int .i64 t225, .bool false]) ?_ 1 _ rfl; (with_reducible repeat (first | refine blk_drewN ?_ _ | refine blk_drew ?_ | refine blk_alloc ?_ _)); refine blk_put (cs := #[.int .i64 0, .bool false]) ?_ 0 _ rfl; (with_reducible repeat (first | refine blk_drewN ?_ _ | refine blk_drew ?_ | refine blk_alloc ?_ _)); exact BK229.out⟩, ⟨by repeat (first | (with_reducible first | exact HB.out | apply below_alloc | apply pw_below_drewN | apply below_drew1 | refine below_set ?_ GE221.out | refine below_set ?_ GE229.out) | exact HB.out)⟩⟩
          · replace c24 := Bool.eq_false_iff.mpr c24
            subst c24
            have H1 : (estoverslaw29_ErrseqUnseen.j0 k true t225 t226) = some r := by rw [if_neg (show ¬ (false = true) by decide)] at H; exact H
            clear H
            have H := H1
            clear H1
            have H' := Aside0.mk H
            clear H
            have hnb30 := NB221_229.out
            have hnc30 := NB229_221.out
            have hcz31_0 : w11.cell? ⟨gb221, 0, none⟩ = some (.int .i64 a0_0) := (blk_cell BK221.out 0).trans rfl
            have hcz31_1 : w11.cell? ⟨gb221, 1, none⟩ = some (.bool false) := (blk_cell BK221.out 1).trans rfl
            have hfz31_0 := blk_frozen BK221.out 0
            have hfz31_1 := blk_frozen BK221.out 1
            go_wp2
            go_meet
            case rel => exact ⟨_, (true), (by first | rfl | (simp; done) | (simp [*]; done)), H', ⟨by first | omega | exact Nat.le_refl _⟩, ⟨by (with_reducible repeat (first | refine blk_drewN ?_ _ | refine blk_drew ?_ | refine blk_alloc ?_ _)); refine blk_far ?_ NB221_229.out _; (with_reducible repeat (first | refine blk_drewN ?_ _ | refine blk_drew ?_ | refine blk_alloc ?_ _)); refine blk_far ?_ NB221_229.out _; (with_reducible repeat (first | refine blk_drewN ?_ _ | refine blk_drew ?_ | refine blk_alloc ?_ _)); exact BK221.out⟩, ⟨by (with_reducible repeat (first | refine blk_drewN ?_ _ | refine blk_drew ?_ | refine blk_alloc ?_ _)); refine blk_put (cs := #[.int .i64 t225, .bool false]) ?_ 1 _ rfl; (with_reducible repeat (first | refine blk_drewN ?_ _ | refine blk_drew ?_ | refine blk_alloc ?_ _)); refine blk_put (cs := #[.int .i64 0, .bool false]) ?_ 0 _ rfl; (with_reducible repeat (first | refine blk_drewN ?_ _ | refine blk_drew ?_ | refine blk_alloc ?_ _)); exact BK229.out⟩, ⟨by repeat (first | (with_reducible first | exact HB.out | apply below_alloc | apply pw_below_drewN | apply below_drew1 | refine below_set ?_ GE221.out | refine below_set ?_ GE229.out) | exact HB.out)⟩⟩
      · rw [if_neg c14] at H
        have c14b0 : decide (0 < a0_0) = false := decide_eq_false c14
        clear c14
        (first | rw [c14b0] | (simp only [i64_w, i32_w]; rw [c14b0]) | skip)
        by_cases c32 : t228 = 15
        · rw [if_pos c32] at H
          have c32b0 : (t228 == 15) = true := beq_iff_eq.mpr c32
          have c32b1 : (t228 != 15) = false := bne_eq_false_iff_eq.mpr c32
          clear c32
          have H' := Aside0.mk H
          clear H
          have hnb33 := NB221_229.out
          have hnc33 := NB229_221.out
          have hcz34_0 : w11.cell? ⟨gb221, 0, none⟩ = some (.int .i64 a0_0) := (blk_cell BK221.out 0).trans rfl
          have hcz34_1 : w11.cell? ⟨gb221, 1, none⟩ = some (.bool a0_1) := (blk_cell BK221.out 1).trans rfl
          have hfz34_0 := blk_frozen BK221.out 0
          have hfz34_1 := blk_frozen BK221.out 1
          go_wp2
          go_meet
          case rel => exact ⟨_, (true), (by first | rfl | (simp; done) | (simp [*]; done)), H', ⟨by first | omega | exact Nat.le_refl _⟩, ⟨by (with_reducible repeat (first | refine blk_drewN ?_ _ | refine blk_drew ?_ | refine blk_alloc ?_ _)); refine blk_far ?_ NB221_229.out _; (with_reducible repeat (first | refine blk_drewN ?_ _ | refine blk_drew ?_ | refine blk_alloc ?_ _)); refine blk_far ?_ NB221_229.out _; (with_reducible repeat (first | refine blk_drewN ?_ _ | refine blk_drew ?_ | refine blk_alloc ?_ _)); exact BK221.out⟩, ⟨by (with_reducible repeat (first | refine blk_drewN ?_ _ | refine blk_drew ?_ | refine blk_alloc ?_ _)); refine blk_put (cs := #[.int .i64 t225, .bool false]) ?_ 1 _ rfl; (with_reducible repeat (first | refine blk_drewN ?_ _ | refine blk_drew ?_ | refine blk_alloc ?_ _)); refine blk_put (cs := #[.int .i64 0, .bool false]) ?_ 0 _ rfl; (with_reducible repeat (first | refine blk_drewN ?_ _ | refine blk_drew ?_ | refine blk_alloc ?_ _)); exact BK229.out⟩, ⟨by repeat (first | (with_reducible first | exact HB.out | apply below_alloc | apply pw_below_drewN | apply below_drew1 | refine below_set ?_ GE221.out | refine below_set ?_ GE229.out) | exact HB.out)⟩⟩
        · rw [if_neg c32] at H
          have c32b0 : (t228 == 15) = false := beq_eq_false_iff_ne.mpr c32
          have c32b1 : (t228 != 15) = true := bne_iff_ne.mpr c32
          by_cases c35 : t228 = 0
          · rw [if_pos c35] at H
            have c35b0 : (t228 == 0) = true := beq_iff_eq.mpr c35
            have c35b1 : (t228 != 0) = false := bne_eq_false_iff_eq.mpr c35
            clear c35
            have H' := Aside0.mk H
            clear H
            have hnb36 := NB221_229.out
            have hnc36 := NB229_221.out
            have hcz37_0 : w11.cell? ⟨gb221, 0, none⟩ = some (.int .i64 a0_0) := (blk_cell BK221.out 0).trans rfl
            have hcz37_1 : w11.cell? ⟨gb221, 1, none⟩ = some (.bool a0_1) := (blk_cell BK221.out 1).trans rfl
            have hfz37_0 := blk_frozen BK221.out 0
            have hfz37_1 := blk_frozen BK221.out 1
            go_wp2
            go_meet
            case rel => exact ⟨_, (false), (by first | rfl | (simp; done) | (simp [*]; done)), H', ⟨by first | omega | exact Nat.le_refl _⟩, ⟨by (with_reducible repeat (first | refine blk_drewN ?_ _ | refine blk_drew ?_ | refine blk_alloc ?_ _)); refine blk_far ?_ NB221_229.out _; (with_reducible repeat (first | refine blk_drewN ?_ _ | refine blk_drew ?_ | refine blk_alloc ?_ _)); refine blk_far ?_ NB221_229.out _; (with_reducible repeat (first | refine blk_drewN ?_ _ | refine blk_drew ?_ | refine blk_alloc ?_ _)); exact BK221.out⟩, ⟨by (with_reducible repeat (first | refine blk_drewN ?_ _ | refine blk_drew ?_ | refine blk_alloc ?_ _)); refine blk_put (cs := #[.int .i64 t225, .bool false]) ?_ 1 _ rfl; (with_reducible repeat (first | refine blk_drewN ?_ _ | refine blk_drew ?_ | refine blk_alloc ?_ _)); refine blk_put (cs := #[.int .i64 0, .bool false]) ?_ 0 _ rfl; (with_reducible repeat (first | refine blk_drewN ?_ _ | refine blk_drew ?_ | refine blk_alloc ?_ _)); exact BK229.out⟩, ⟨by repeat (first | (with_reducible first | exact HB.out | apply below_alloc | apply pw_below_drewN | apply below_drew1 | refine below_set ?_ GE221.out | refine below_set ?_ GE229.out) | exact HB.out)⟩⟩
          · rw [if_neg c35] at H
            have c35b0 : (t228 == 0) = false := beq_eq_false_iff_ne.mpr c35
            have c35b1 : (t228 != 0) = true := bne_iff_ne.mpr c35
            have H' := Aside0.mk H
            clear H
            have hnb38 := NB221_229.out
            have hnc38 := NB229_221.out
            have hcz39_0 : w11.cell? ⟨gb221, 0, none⟩ = some (.int .i64 a0_0) := (blk_cell BK221.out 0).trans rfl
            have hcz39_1 : w11.cell? ⟨gb221, 1, none⟩ = some (.bool a0_1) := (blk_cell BK221.out 1).trans rfl
            have hfz39_0 := blk_frozen BK221.out 0
            have hfz39_1 := blk_frozen BK221.out 1
            go_wp2
            go_meet
            case rel => exact ⟨_, ((t228 != 15)), (by first | rfl | (simp; done) | (simp [*]; done)), H', ⟨by first | omega | exact Nat.le_refl _⟩, ⟨by (with_reducible repeat (first | refine blk_drewN ?_ _ | refine blk_drew ?_ | refine blk_alloc ?_ _)); refine blk_far ?_ NB221_229.out _; (with_reducible repeat (first | refine blk_drewN ?_ _ | refine blk_drew ?_ | refine blk_alloc ?_ _)); refine blk_far ?_ NB221_229.out _; (with_reducible repeat (first | refine blk_drewN ?_ _ | refine blk_drew ?_ | refine blk_alloc ?_ _)); exact BK221.out⟩, ⟨by (with_reducible repeat (first | refine blk_drewN ?_ _ | refine blk_drew ?_ | refine blk_alloc ?_ _)); refine blk_put (cs := #[.int .i64 t225, .bool false]) ?_ 1 _ rfl; (with_reducible repeat (first | refine blk_drewN ?_ _ | refine blk_drew ?_ | refine blk_alloc ?_ _)); refine blk_put (cs := #[.int .i64 0, .bool false]) ?_ 0 _ rfl; (with_reducible repeat (first | refine blk_drewN ?_ _ | refine blk_drew ?_ | refine blk_alloc ?_ _)); exact BK229.out⟩, ⟨by repeat (first | (with_reducible first | exact HB.out | apply below_alloc | apply pw_below_drewN | apply below_drew1 | refine below_set ?_ GE221.out | refine below_set ?_ GE229.out) | exact HB.out)⟩⟩
    case rest =>
      clear HC5
      try clear c1
      try clear c2
      try clear p2
      try clear c3
      try clear c3b0
      try clear c3b1
      try clear c8
      try clear c12
      try clear c14
      try clear c14b0
      try clear c15
      try clear c15b0
      try clear c15b1
      try clear c16
      try clear c17
      try clear c19
      try clear c19b0
      try clear c19b1
      try clear c20
      try clear c22
      try clear c24
      try clear c25
      try clear c25b0
      try clear c25b1
      try clear c26
      try clear c28
      try clear c30
      try clear c32
      try clear c32b0
      try clear c32b1
      try clear c33
      try clear c35
      try clear c35b0
      try clear c35b1
      try clear c36
      try clear c38
      try clear hcz13_0
      try clear hcz13_1
      try clear hcz18_0
      try clear hcz18_1
      try clear hcz21_0
      try clear hcz21_1
      try clear hcz23_0
      try clear hcz23_1
      try clear hcz27_0
      try clear hcz27_1
      try clear hcz29_0
      try clear hcz29_1
      try clear hcz31_0
      try clear hcz31_1
      try clear hcz34_0
      try clear hcz34_1
      try clear hcz37_0
      try clear hcz37_1
      try clear hcz39_0
      try clear hcz39_1
      try clear hcz7_0
      try clear hcz7_1
      try clear hcz9_0
      try clear hcz9_1
      try clear hfz13_0
      try clear hfz13_1
      try clear hfz18_0
      try clear hfz18_1
      try clear hfz21_0
      try clear hfz21_1
      try clear hfz23_0
      try clear hfz23_1
      try clear hfz27_0
      try clear hfz27_1
      try clear hfz29_0
      try clear hfz29_1
      try clear hfz31_0
      try clear hfz31_1
      try clear hfz34_0
      try clear hfz34_1
      try clear hfz37_0
      try clear hfz37_1
      try clear hfz39_0
      try clear hfz39_1
      try clear hfz7_0
      try clear hfz7_1
      try clear hfz9_0
      try clear hfz9_1
      obtain ⟨kq, x54_4, rfl, HA, HJ4, BK221, BK229, HB⟩ := hcut
      cases kq with
      | zero => exact absurd HA.out (by simp [estoverslaw29_ErrseqUnseen.j0])
      | succ kj4 =>
        have H := HA.out
        clear HA
        simp only [estoverslaw29_ErrseqUnseen.j0] at H
        by_cases c40 : x54_4 = true
        · subst c40
          have H1 : (some false) = some r := by rw [if_pos rfl] at H; exact H
          clear H
          have H := H1
          clear H1
          obtain rfl := Option.some.inj H
          go_wp2
          go_ret
          exact ⟨by first | rfl | (simp [errW_none, errW_some] <;> rfl) | (simp [*, errW_none, errW_some] <;> rfl), by repeat (first | (with_reducible first | exact HB.out | apply below_alloc | apply pw_below_drewN | apply below_drew1 | refine below_set ?_ GE221.out | refine below_set ?_ GE229.out) | exact HB.out)⟩
        · replace c40 := Bool.eq_false_iff.mpr c40
          subst c40
          have H1 : ((errseq_Sample.f t225 t226).bind fun bt230 => ((errseq_Check.f kj4 t225 t226 bt230.1).bind fun bt232 => (if bt232.2.2.2 = 0 then ((estoverslaw29_awake.f kj4).bind fun t237 => (some t237)) else (some false)))) = some r := by rw [if_neg (show ¬ (false = true) by decide)] at H; exact H
          clear H
          have H := H1
          clear H1
          replace H := Option.bind_eq_some_iff.mp H
          obtain ⟨⟨t230, t231⟩, A410, H⟩ := H
          replace H : ((errseq_Check.f kj4 t225 t226 t230).bind fun bt232 => (if bt232.2.2.2 = 0 then ((estoverslaw29_awake.f kj4).bind fun t237 => (some t237)) else (some false))) = some r := H
          have A41 := Aside0.mk A410
          clear A410
          replace H := Option.bind_eq_some_iff.mp H
          obtain ⟨⟨t232, t233, t234, t235⟩, A420, H⟩ := H
          replace H : (if t235 = 0 then ((estoverslaw29_awake.f kj4).bind fun t237 => (some t237)) else (some false)) = some r := H
          have A42 := Aside0.mk A420
          clear A420
          by_cases c43 : t235 = 0
          · rw [if_pos c43] at H
            have c43b0 : (t235 == 0) = true := beq_iff_eq.mpr c43
            have c43b1 : (t235 != 0) = false := bne_eq_false_iff_eq.mpr c43
            clear c43
            replace H := Option.bind_eq_some_iff.mp H
            obtain ⟨t237, A440, H⟩ := H
            replace H : (some t237) = some r := H
            have A44 := Aside0.mk A440
            clear A440
            obtain rfl := Option.some.inj H
            have hnb45 := NB229_221.out
            have hnc45 := NB221_229.out
            have hcz46_0 : wc.cell? ⟨gb229, 0, none⟩ = some (.int .i64 t225) := (blk_cell BK229.out 0).trans rfl
            have hcz46_1 : wc.cell? ⟨gb229, 1, none⟩ = some (.bool t226) := (blk_cell BK229.out 1).trans rfl
            have hfz46_0 := blk_frozen BK229.out 0
            have hfz46_1 := blk_frozen BK229.out 1
            go_wp2_with (first | ((with_reducible refine gate_callee (f := 15) rfl ?_); refine goesL_ (some 57) rfl rfl Try.func15 (by kernel_rfl) rfl #[.agg #[.int .i64 t225, .bool t226]] rfl (by (try simp only [List.map_toArray, List.map_cons, List.map_nil]); first | done | rfl | (simp only [List.length_drop, List.length_take]; rfl)) ?_; (with_reducible refine (errseq_Sample.calls t225 t226 t230 t231 _ A41.out).mono ?_); rintro e w47 ⟨rfl, hb⟩; refine ⟨_, rfl, ?_⟩; have n0_ := Aside0.mk (blk_below (g := gb221) (o := .cells #[.int .i64 a0_0, .bool a0_1] 23 (0, 0)) (by (with_reducible repeat (first | refine blk_drewN ?_ _ | refine blk_drew ?_ | refine blk_alloc ?_ _)); exact BK221.out) hb); have n1_ := Aside0.mk (blk_below (g := gb229) (o := .cells #[.int .i64 t225, .bool t226] 23 (0, 0)) (by (with_reducible repeat (first | refine blk_drewN ?_ _ | refine blk_drew ?_ | refine blk_alloc ?_ _)); exact BK229.out) hb); have n2_ := Aside0.mk (below_step (by repeat (first | (with_reducible first | exact HB.out | apply below_alloc | apply pw_below_drewN | apply below_drew1 | refine below_set ?_ GE221.out | refine below_set ?_ GE229.out) | exact HB.out)) hb); clear BK221; clear BK229; clear HB; have BK221 := n0_; have BK229 := n1_; have HB := n2_; clear n0_ n1_ n2_; (try clear hb); (try clear hb2); (try clear hk); (try clear hi); have hcz48_0 : w47.cell? ⟨gb229, 0, none⟩ = some (.int .i64 t225) := (blk_cell BK229.out 0).trans rfl; have hcz48_1 : w47.cell? ⟨gb229, 1, none⟩ = some (.bool t226) := (blk_cell BK229.out 1).trans rfl; have hfz48_0 := blk_frozen BK229.out 0; have hfz48_1 := blk_frozen BK229.out 1) | ((with_reducible refine gate_callee (f := 17) rfl ?_); refine goesL_ (some 63) rfl rfl Try.func17 (by kernel_rfl) rfl #[.agg #[.int .i64 t225, .bool t226], .int .i64 t230] rfl (by (try simp only [List.map_toArray, List.map_cons, List.map_nil]); first | done | rfl | (simp only [List.length_drop, List.length_take]; rfl)) ?_; (with_reducible refine (errseq_Check.calls kj4 t225 t226 t230 t232 t233 t234 t235 _ A42.out).mono ?_); rintro e w49 ⟨rfl, hb⟩; refine ⟨_, rfl, ?_⟩; have n0_ := Aside0.mk (blk_below (g := gb221) (o := .cells #[.int .i64 a0_0, .bool a0_1] 23 (0, 0)) (by (with_reducible repeat (first | refine blk_drewN ?_ _ | refine blk_drew ?_ | refine blk_alloc ?_ _)); exact BK221.out) hb); have n1_ := Aside0.mk (blk_below (g := gb229) (o := .cells #[.int .i64 t225, .bool t226] 23 (0, 0)) (by (with_reducible repeat (first | refine blk_drewN ?_ _ | refine blk_drew ?_ | refine blk_alloc ?_ _)); exact BK229.out) hb); have n2_ := Aside0.mk (below_step (by repeat (first | (with_reducible first | exact HB.out | apply below_alloc | apply pw_below_drewN | apply below_drew1 | refine below_set ?_ GE221.out | refine below_set ?_ GE229.out) | exact HB.out)) hb); clear BK221; clear BK229; clear HB; have BK221 := n0_; have BK229 := n1_; have HB := n2_; clear n0_ n1_ n2_; (try clear hb); (try clear hb2); (try clear hk); (try clear hi)) | ((with_reducible refine gate_dst (N := 10) rfl ?_); refine box_event ?hg (N := 10) ?hd (cs := #[.int .i64 0, .bool false]) (t := 23) ?hr ?_; (case hd => rfl); (case hg => rfl); (case hr => first | (go_simp; done) | (go_simp; rfl)); intro gb236 hg w50 hbox hb; have n0_ := Aside0.mk (blk_below (g := gb221) (o := .cells #[.int .i64 a0_0, .bool a0_1] 23 (0, 0)) (by (with_reducible repeat (first | refine blk_drewN ?_ _ | refine blk_drew ?_ | refine blk_alloc ?_ _)); exact BK221.out) hb); have n1_ := Aside0.mk (blk_below (g := gb229) (o := .cells #[.int .i64 t225, .bool t226] 23 (0, 0)) (by (with_reducible repeat (first | refine blk_drewN ?_ _ | refine blk_drew ?_ | refine blk_alloc ?_ _)); exact BK229.out) hb); have n2_ := Aside0.mk (below_step (by repeat (first | (with_reducible first | exact HB.out | apply below_alloc | apply pw_below_drewN | apply below_drew1 | refine below_set ?_ GE221.out | refine below_set ?_ GE229.out) | exact HB.out)) hb); have n3_ := Aside0.mk (hbox); have n4_ := Aside0.mk ((by rw [hg]; exact (below_size (by repeat (first | (with_reducible first | exact HB.out | apply below_alloc | apply pw_below_drewN | apply below_drew1 | refine below_set ?_ GE221.out | refine below_set ?_ GE229.out) | exact HB.out))) : w.heap.size ≤ gb236)); have n5_ := Aside0.mk ((by rw [hg]; exact (below_size (by repeat (first | (with_reducible first | exact HB.out | apply below_alloc | apply pw_below_drewN | apply below_drew1 | refine below_set ?_ GE221.out | refine below_set ?_ GE229.out) | exact HB.out))) : w.heap.size ≤ gb236)); have n6_ := Aside0.mk ((by rw [hg]; exact Nat.ne_of_lt (blk_lt (g := gb221) (o := .cells #[.int .i64 a0_0, .bool a0_1] 23 (0, 0)) (by (with_reducible repeat (first | refine blk_drewN ?_ _ | refine blk_drew ?_ | refine blk_alloc ?_ _)); exact BK221.out)) : gb221 ≠ gb236)); have n7_ := Aside0.mk ((by rw [hg]; exact Nat.ne_of_gt (blk_lt (g := gb221) (o := .cells #[.int .i64 a0_0, .bool a0_1] 23 (0, 0)) (by (with_reducible repeat (first | refine blk_drewN ?_ _ | refine blk_drew ?_ | refine blk_alloc ?_ _)); exact BK221.out)) : gb236 ≠ gb221)); have n8_ := Aside0.mk ((by rw [hg]; exact Nat.ne_of_lt (blk_lt (g := gb229) (o := .cells #[.int .i64 t225, .bool t226] 23 (0, 0)) (by (with_reducible repeat (first | refine blk_drewN ?_ _ | refine blk_drew ?_ | refine blk_alloc ?_ _)); exact BK229.out)) : gb229 ≠ gb236)); have n9_ := Aside0.mk ((by rw [hg]; exact Nat.ne_of_gt (blk_lt (g := gb229) (o := .cells #[.int .i64 t225, .bool t226] 23 (0, 0)) (by (with_reducible repeat (first | refine blk_drewN ?_ _ | refine blk_drew ?_ | refine blk_alloc ?_ _)); exact BK229.out)) : gb236 ≠ gb229)); clear BK221; clear BK229; clear HB; have BK221 := n0_; have BK229 := n1_; have HB := n2_; have BK236 := n3_; have GW236 := n4_; have GE236 := n5_; have NB221_236 := n6_; have NB236_221 := n7_; have NB229_236 := n8_; have NB236_229 := n9_; clear n0_ n1_ n2_ n3_ n4_ n5_ n6_ n7_ n8_ n9_; clear hb hbox hg; have hnb51 := NB236_221.out; have hnc51 := NB221_236.out; have hnb52 := NB236_229.out; have hnc52 := NB229_236.out; have hcz53_0 : w50.cell? ⟨gb236, 0, none⟩ = some (.int .i64 0) := (blk_cell BK236.out 0).trans rfl; have hcz53_1 : w50.cell? ⟨gb236, 1, none⟩ = some (.bool false) := (blk_cell BK236.out 1).trans rfl; have hfz53_0 := blk_frozen BK236.out 0; have hfz53_1 := blk_frozen BK236.out 1) | (go_at_call 12; (with_reducible refine (estoverslaw29_awake.calls kj4  t237 _ A44.out).mono ?_); rintro e w54 ⟨rfl, hb⟩; have n0_ := Aside0.mk (blk_below (g := gb221) (o := .cells #[.int .i64 a0_0, .bool a0_1] 23 (0, 0)) (by (with_reducible repeat (first | refine blk_drewN ?_ _ | refine blk_drew ?_ | refine blk_alloc ?_ _)); refine blk_far ?_ NB221_236.out _; (with_reducible repeat (first | refine blk_drewN ?_ _ | refine blk_drew ?_ | refine blk_alloc ?_ _)); refine blk_far ?_ NB221_236.out _; (with_reducible repeat (first | refine blk_drewN ?_ _ | refine blk_drew ?_ | refine blk_alloc ?_ _)); exact BK221.out) hb); have n1_ := Aside0.mk (blk_below (g := gb229) (o := .cells #[.int .i64 t225, .bool t226] 23 (0, 0)) (by (with_reducible repeat (first | refine blk_drewN ?_ _ | refine blk_drew ?_ | refine blk_alloc ?_ _)); refine blk_far ?_ NB229_236.out _; (with_reducible repeat (first | refine blk_drewN ?_ _ | refine blk_drew ?_ | refine blk_alloc ?_ _)); refine blk_far ?_ NB229_236.out _; (with_reducible repeat (first | refine blk_drewN ?_ _ | refine blk_drew ?_ | refine blk_alloc ?_ _)); exact BK229.out) hb); have n2_ := Aside0.mk (blk_below (g := gb236) (o := .cells #[.int .i64 t232, .bool t233] 23 (0, 0)) (by (with_reducible repeat (first | refine blk_drewN ?_ _ | refine blk_drew ?_ | refine blk_alloc ?_ _)); refine blk_put (cs := #[.int .i64 t232, .bool false]) ?_ 1 _ rfl; (with_reducible repeat (first | refine blk_drewN ?_ _ | refine blk_drew ?_ | refine blk_alloc ?_ _)); refine blk_put (cs := #[.int .i64 0, .bool false]) ?_ 0 _ rfl; (with_reducible repeat (first | refine blk_drewN ?_ _ | refine blk_drew ?_ | refine blk_alloc ?_ _)); exact BK236.out) hb); have n3_ := Aside0.mk (below_step (by repeat (first | (with_reducible first | exact HB.out | apply below_alloc | apply pw_below_drewN | apply below_drew1 | refine below_set ?_ GE221.out | refine below_set ?_ GE229.out | refine below_set ?_ GE236.out) | exact HB.out)) hb); clear BK221; clear BK229; clear BK236; clear HB; have BK221 := n0_; have BK229 := n1_; have BK236 := n2_; have HB := n3_; clear n0_ n1_ n2_ n3_; (try clear hb); (try clear hb2); (try clear hk); (try clear hi)))
            go_ret
            exact ⟨by first | rfl | (simp [errW_none, errW_some] <;> rfl) | (simp [*, errW_none, errW_some] <;> rfl), by repeat (first | (with_reducible first | exact HB.out | apply below_alloc | apply pw_below_drewN | apply below_drew1 | refine below_set ?_ GE221.out | refine below_set ?_ GE229.out | refine below_set ?_ GE236.out) | exact HB.out)⟩
          · rw [if_neg c43] at H
            have c43b0 : (t235 == 0) = false := beq_eq_false_iff_ne.mpr c43
            have c43b1 : (t235 != 0) = true := bne_iff_ne.mpr c43
            obtain rfl := Option.some.inj H
            have hnb55 := NB229_221.out
            have hnc55 := NB221_229.out
            have hcz56_0 : wc.cell? ⟨gb229, 0, none⟩ = some (.int .i64 t225) := (blk_cell BK229.out 0).trans rfl
            have hcz56_1 : wc.cell? ⟨gb229, 1, none⟩ = some (.bool t226) := (blk_cell BK229.out 1).trans rfl
            have hfz56_0 := blk_frozen BK229.out 0
            have hfz56_1 := blk_frozen BK229.out 1
            go_wp2_with (first | ((with_reducible refine gate_callee (f := 15) rfl ?_); refine goesL_ (some 57) rfl rfl Try.func15 (by kernel_rfl) rfl #[.agg #[.int .i64 t225, .bool t226]] rfl (by (try simp only [List.map_toArray, List.map_cons, List.map_nil]); first | done | rfl | (simp only [List.length_drop, List.length_take]; rfl)) ?_; (with_reducible refine (errseq_Sample.calls t225 t226 t230 t231 _ A41.out).mono ?_); rintro e w57 ⟨rfl, hb⟩; refine ⟨_, rfl, ?_⟩; have n0_ := Aside0.mk (blk_below (g := gb221) (o := .cells #[.int .i64 a0_0, .bool a0_1] 23 (0, 0)) (by (with_reducible repeat (first | refine blk_drewN ?_ _ | refine blk_drew ?_ | refine blk_alloc ?_ _)); exact BK221.out) hb); have n1_ := Aside0.mk (blk_below (g := gb229) (o := .cells #[.int .i64 t225, .bool t226] 23 (0, 0)) (by (with_reducible repeat (first | refine blk_drewN ?_ _ | refine blk_drew ?_ | refine blk_alloc ?_ _)); exact BK229.out) hb); have n2_ := Aside0.mk (below_step (by repeat (first | (with_reducible first | exact HB.out | apply below_alloc | apply pw_below_drewN | apply below_drew1 | refine below_set ?_ GE221.out | refine below_set ?_ GE229.out) | exact HB.out)) hb); clear BK221; clear BK229; clear HB; have BK221 := n0_; have BK229 := n1_; have HB := n2_; clear n0_ n1_ n2_; (try clear hb); (try clear hb2); (try clear hk); (try clear hi); have hcz58_0 : w57.cell? ⟨gb229, 0, none⟩ = some (.int .i64 t225) := (blk_cell BK229.out 0).trans rfl; have hcz58_1 : w57.cell? ⟨gb229, 1, none⟩ = some (.bool t226) := (blk_cell BK229.out 1).trans rfl; have hfz58_0 := blk_frozen BK229.out 0; have hfz58_1 := blk_frozen BK229.out 1) | ((with_reducible refine gate_callee (f := 17) rfl ?_); refine goesL_ (some 63) rfl rfl Try.func17 (by kernel_rfl) rfl #[.agg #[.int .i64 t225, .bool t226], .int .i64 t230] rfl (by (try simp only [List.map_toArray, List.map_cons, List.map_nil]); first | done | rfl | (simp only [List.length_drop, List.length_take]; rfl)) ?_; (with_reducible refine (errseq_Check.calls kj4 t225 t226 t230 t232 t233 t234 t235 _ A42.out).mono ?_); rintro e w59 ⟨rfl, hb⟩; refine ⟨_, rfl, ?_⟩; have n0_ := Aside0.mk (blk_below (g := gb221) (o := .cells #[.int .i64 a0_0, .bool a0_1] 23 (0, 0)) (by (with_reducible repeat (first | refine blk_drewN ?_ _ | refine blk_drew ?_ | refine blk_alloc ?_ _)); exact BK221.out) hb); have n1_ := Aside0.mk (blk_below (g := gb229) (o := .cells #[.int .i64 t225, .bool t226] 23 (0, 0)) (by (with_reducible repeat (first | refine blk_drewN ?_ _ | refine blk_drew ?_ | refine blk_alloc ?_ _)); exact BK229.out) hb); have n2_ := Aside0.mk (below_step (by repeat (first | (with_reducible first | exact HB.out | apply below_alloc | apply pw_below_drewN | apply below_drew1 | refine below_set ?_ GE221.out | refine below_set ?_ GE229.out) | exact HB.out)) hb); clear BK221; clear BK229; clear HB; have BK221 := n0_; have BK229 := n1_; have HB := n2_; clear n0_ n1_ n2_; (try clear hb); (try clear hb2); (try clear hk); (try clear hi)) | ((with_reducible refine gate_dst (N := 10) rfl ?_); refine box_event ?hg (N := 10) ?hd (cs := #[.int .i64 0, .bool false]) (t := 23) ?hr ?_; (case hd => rfl); (case hg => rfl); (case hr => first | (go_simp; done) | (go_simp; rfl)); intro gb236 hg w60 hbox hb; have n0_ := Aside0.mk (blk_below (g := gb221) (o := .cells #[.int .i64 a0_0, .bool a0_1] 23 (0, 0)) (by (with_reducible repeat (first | refine blk_drewN ?_ _ | refine blk_drew ?_ | refine blk_alloc ?_ _)); exact BK221.out) hb); have n1_ := Aside0.mk (blk_below (g := gb229) (o := .cells #[.int .i64 t225, .bool t226] 23 (0, 0)) (by (with_reducible repeat (first | refine blk_drewN ?_ _ | refine blk_drew ?_ | refine blk_alloc ?_ _)); exact BK229.out) hb); have n2_ := Aside0.mk (below_step (by repeat (first | (with_reducible first | exact HB.out | apply below_alloc | apply pw_below_drewN | apply below_drew1 | refine below_set ?_ GE221.out | refine below_set ?_ GE229.out) | exact HB.out)) hb); have n3_ := Aside0.mk (hbox); have n4_ := Aside0.mk ((by rw [hg]; exact (below_size (by repeat (first | (with_reducible first | exact HB.out | apply below_alloc | apply pw_below_drewN | apply below_drew1 | refine below_set ?_ GE221.out | refine below_set ?_ GE229.out) | exact HB.out))) : w.heap.size ≤ gb236)); have n5_ := Aside0.mk ((by rw [hg]; exact (below_size (by repeat (first | (with_reducible first | exact HB.out | apply below_alloc | apply pw_below_drewN | apply below_drew1 | refine below_set ?_ GE221.out | refine below_set ?_ GE229.out) | exact HB.out))) : w.heap.size ≤ gb236)); have n6_ := Aside0.mk ((by rw [hg]; exact Nat.ne_of_lt (blk_lt (g := gb221) (o := .cells #[.int .i64 a0_0, .bool a0_1] 23 (0, 0)) (by (with_reducible repeat (first | refine blk_drewN ?_ _ | refine blk_drew ?_ | refine blk_alloc ?_ _)); exact BK221.out)) : gb221 ≠ gb236)); have n7_ := Aside0.mk ((by rw [hg]; exact Nat.ne_of_gt (blk_lt (g := gb221) (o := .cells #[.int .i64 a0_0, .bool a0_1] 23 (0, 0)) (by (with_reducible repeat (first | refine blk_drewN ?_ _ | refine blk_drew ?_ | refine blk_alloc ?_ _)); exact BK221.out)) : gb236 ≠ gb221)); have n8_ := Aside0.mk ((by rw [hg]; exact Nat.ne_of_lt (blk_lt (g := gb229) (o := .cells #[.int .i64 t225, .bool t226] 23 (0, 0)) (by (with_reducible repeat (first | refine blk_drewN ?_ _ | refine blk_drew ?_ | refine blk_alloc ?_ _)); exact BK229.out)) : gb229 ≠ gb236)); have n9_ := Aside0.mk ((by rw [hg]; exact Nat.ne_of_gt (blk_lt (g := gb229) (o := .cells #[.int .i64 t225, .bool t226] 23 (0, 0)) (by (with_reducible repeat (first | refine blk_drewN ?_ _ | refine blk_drew ?_ | refine blk_alloc ?_ _)); exact BK229.out)) : gb236 ≠ gb229)); clear BK221; clear BK229; clear HB; have BK221 := n0_; have BK229 := n1_; have HB := n2_; have BK236 := n3_; have GW236 := n4_; have GE236 := n5_; have NB221_236 := n6_; have NB236_221 := n7_; have NB229_236 := n8_; have NB236_229 := n9_; clear n0_ n1_ n2_ n3_ n4_ n5_ n6_ n7_ n8_ n9_; clear hb hbox hg; have hnb61 := NB236_221.out; have hnc61 := NB221_236.out; have hnb62 := NB236_229.out; have hnc62 := NB229_236.out; have hcz63_0 : w60.cell? ⟨gb236, 0, none⟩ = some (.int .i64 0) := (blk_cell BK236.out 0).trans rfl; have hcz63_1 : w60.cell? ⟨gb236, 1, none⟩ = some (.bool false) := (blk_cell BK236.out 1).trans rfl; have hfz63_0 := blk_frozen BK236.out 0; have hfz63_1 := blk_frozen BK236.out 1))
            go_ret
            exact ⟨by first | rfl | (simp [errW_none, errW_some] <;> rfl) | (simp [*, errW_none, errW_some] <;> rfl), by repeat (first | (with_reducible first | exact HB.out | apply below_alloc | apply pw_below_drewN | apply below_drew1 | refine below_set ?_ GE221.out | refine below_set ?_ GE229.out | refine below_set ?_ GE236.out) | exact HB.out)⟩
  · rw [if_neg c3] at H
    have c3b0 : (t223 == 0) = false := beq_eq_false_iff_ne.mpr c3
    have c3b1 : (t223 != 0) = true := bne_iff_ne.mpr c3
    by_cases c64 : t223 = 1
    · rw [if_pos c64] at H
      have c64b0 : (t223 == 1) = true := beq_iff_eq.mpr c64
      have c64b1 : (t223 != 1) = false := bne_eq_false_iff_eq.mpr c64
      clear c64
      by_cases c65 : t222 = 0
      · rw [if_pos c65] at H
        have c65b0 : (t222 == 0) = true := beq_iff_eq.mpr c65
        have c65b1 : (t222 != 0) = false := bne_eq_false_iff_eq.mpr c65
        clear c65
        replace H := Option.bind_eq_some_iff.mp H
        obtain ⟨t224, A660, H⟩ := H
        replace H : (some t224) = some r := H
        have A66 := Aside0.mk A660
        clear A660
        obtain rfl := Option.some.inj H
        go_enter Try.func8, Try.ntmps8
        go_wp2_with (first | ((with_reducible refine gate_dst (N := 1) rfl ?_); refine box_event ?hg (N := 1) ?hd (cs := #[.int .i64 a0_0, .bool a0_1]) (t := 23) ?hr ?_; (case hd => rfl); (case hg => rfl); (case hr => first | (go_simp; done) | (go_simp; rfl)); intro gb221 hg w67 hbox hb; have n0_ := Aside0.mk (below_step (by repeat (first | (with_reducible first | exact HB.out | apply below_alloc | apply pw_below_drewN | apply below_drew1) | exact HB.out)) hb); have n1_ := Aside0.mk (hbox); have n2_ := Aside0.mk ((by rw [hg]; exact (below_size (by repeat (first | (with_reducible first | exact HB.out | apply below_alloc | apply pw_below_drewN | apply below_drew1) | exact HB.out))) : w.heap.size ≤ gb221)); have n3_ := Aside0.mk ((by rw [hg]; exact (below_size (by repeat (first | (with_reducible first | exact HB.out | apply below_alloc | apply pw_below_drewN | apply below_drew1) | exact HB.out))) : w.heap.size ≤ gb221)); clear HB; have HB := n0_; have BK221 := n1_; have GW221 := n2_; have GE221 := n3_; clear n0_ n1_ n2_ n3_; clear hb hbox hg; have hcz68_0 : w67.cell? ⟨gb221, 0, none⟩ = some (.int .i64 a0_0) := (blk_cell BK221.out 0).trans rfl; have hcz68_1 : w67.cell? ⟨gb221, 1, none⟩ = some (.bool a0_1) := (blk_cell BK221.out 1).trans rfl; have hfz68_0 := blk_frozen BK221.out 0; have hfz68_1 := blk_frozen BK221.out 1) | ((with_reducible refine gate_callee (f := 15) rfl ?_); refine goesL_ (some 15) rfl rfl Try.func15 (by kernel_rfl) rfl #[.agg #[.int .i64 a0_0, .bool a0_1]] rfl (by (try simp only [List.map_toArray, List.map_cons, List.map_nil]); first | done | rfl | (simp only [List.length_drop, List.length_take]; rfl)) ?_; (with_reducible refine (errseq_Sample.calls a0_0 a0_1 t222 t223 _ A2.out).mono ?_); rintro e w69 ⟨rfl, hb⟩; refine ⟨_, rfl, ?_⟩; have n0_ := Aside0.mk (blk_below (g := gb221) (o := .cells #[.int .i64 a0_0, .bool a0_1] 23 (0, 0)) (by (with_reducible repeat (first | refine blk_drewN ?_ _ | refine blk_drew ?_ | refine blk_alloc ?_ _)); exact BK221.out) hb); have n1_ := Aside0.mk (below_step (by repeat (first | (with_reducible first | exact HB.out | apply below_alloc | apply pw_below_drewN | apply below_drew1 | refine below_set ?_ GE221.out) | exact HB.out)) hb); clear BK221; clear HB; have BK221 := n0_; have HB := n1_; clear n0_ n1_; (try clear hb); (try clear hb2); (try clear hk); (try clear hi)) | (go_at_call 12; (with_reducible refine (estoverslaw29_awake.calls k  t224 _ A66.out).mono ?_); rintro e w70 ⟨rfl, hb⟩; have n0_ := Aside0.mk (blk_below (g := gb221) (o := .cells #[.int .i64 a0_0, .bool a0_1] 23 (0, 0)) (by (with_reducible repeat (first | refine blk_drewN ?_ _ | refine blk_drew ?_ | refine blk_alloc ?_ _)); exact BK221.out) hb); have n1_ := Aside0.mk (below_step (by repeat (first | (with_reducible first | exact HB.out | apply below_alloc | apply pw_below_drewN | apply below_drew1 | refine below_set ?_ GE221.out) | exact HB.out)) hb); clear BK221; clear HB; have BK221 := n0_; have HB := n1_; clear n0_ n1_; (try clear hb); (try clear hb2); (try clear hk); (try clear hi)))
        go_ret
        exact ⟨by first | rfl | (simp [errW_none, errW_some] <;> rfl) | (simp [*, errW_none, errW_some] <;> rfl), by repeat (first | (with_reducible first | exact HB.out | apply below_alloc | apply pw_below_drewN | apply below_drew1 | refine below_set ?_ GE221.out) | exact HB.out)⟩
      · rw [if_neg c65] at H
        have c65b0 : (t222 == 0) = false := beq_eq_false_iff_ne.mpr c65
        have c65b1 : (t222 != 0) = true := bne_iff_ne.mpr c65
        obtain rfl := Option.some.inj H
        go_enter Try.func8, Try.ntmps8
        go_wp2_with (first | ((with_reducible refine gate_dst (N := 1) rfl ?_); refine box_event ?hg (N := 1) ?hd (cs := #[.int .i64 a0_0, .bool a0_1]) (t := 23) ?hr ?_; (case hd => rfl); (case hg => rfl); (case hr => first | (go_simp; done) | (go_simp; rfl)); intro gb221 hg w71 hbox hb; have n0_ := Aside0.mk (below_step (by repeat (first | (with_reducible first | exact HB.out | apply below_alloc | apply pw_below_drewN | apply below_drew1) | exact HB.out)) hb); have n1_ := Aside0.mk (hbox); have n2_ := Aside0.mk ((by rw [hg]; exact (below_size (by repeat (first | (with_reducible first | exact HB.out | apply below_alloc | apply pw_below_drewN | apply below_drew1) | exact HB.out))) : w.heap.size ≤ gb221)); have n3_ := Aside0.mk ((by rw [hg]; exact (below_size (by repeat (first | (with_reducible first | exact HB.out | apply below_alloc | apply pw_below_drewN | apply below_drew1) | exact HB.out))) : w.heap.size ≤ gb221)); clear HB; have HB := n0_; have BK221 := n1_; have GW221 := n2_; have GE221 := n3_; clear n0_ n1_ n2_ n3_; clear hb hbox hg; have hcz72_0 : w71.cell? ⟨gb221, 0, none⟩ = some (.int .i64 a0_0) := (blk_cell BK221.out 0).trans rfl; have hcz72_1 : w71.cell? ⟨gb221, 1, none⟩ = some (.bool a0_1) := (blk_cell BK221.out 1).trans rfl; have hfz72_0 := blk_frozen BK221.out 0; have hfz72_1 := blk_frozen BK221.out 1) | ((with_reducible refine gate_callee (f := 15) rfl ?_); refine goesL_ (some 15) rfl rfl Try.func15 (by kernel_rfl) rfl #[.agg #[.int .i64 a0_0, .bool a0_1]] rfl (by (try simp only [List.map_toArray, List.map_cons, List.map_nil]); first | done | rfl | (simp only [List.length_drop, List.length_take]; rfl)) ?_; (with_reducible refine (errseq_Sample.calls a0_0 a0_1 t222 t223 _ A2.out).mono ?_); rintro e w73 ⟨rfl, hb⟩; refine ⟨_, rfl, ?_⟩; have n0_ := Aside0.mk (blk_below (g := gb221) (o := .cells #[.int .i64 a0_0, .bool a0_1] 23 (0, 0)) (by (with_reducible repeat (first | refine blk_drewN ?_ _ | refine blk_drew ?_ | refine blk_alloc ?_ _)); exact BK221.out) hb); have n1_ := Aside0.mk (below_step (by repeat (first | (with_reducible first | exact HB.out | apply below_alloc | apply pw_below_drewN | apply below_drew1 | refine below_set ?_ GE221.out) | exact HB.out)) hb); clear BK221; clear HB; have BK221 := n0_; have HB := n1_; clear n0_ n1_; (try clear hb); (try clear hb2); (try clear hk); (try clear hi)))
        go_ret
        exact ⟨by first | rfl | (simp [errW_none, errW_some] <;> rfl) | (simp [*, errW_none, errW_some] <;> rfl), by repeat (first | (with_reducible first | exact HB.out | apply below_alloc | apply pw_below_drewN | apply below_drew1 | refine below_set ?_ GE221.out) | exact HB.out)⟩
    · rw [if_neg c64] at H
      have c64b0 : (t223 == 1) = false := beq_eq_false_iff_ne.mpr c64
      have c64b1 : (t223 != 1) = true := bne_iff_ne.mpr c64
      obtain rfl := Option.some.inj H
      go_enter Try.func8, Try.ntmps8
      go_wp2_with (first | ((with_reducible refine gate_dst (N := 1) rfl ?_); refine box_event ?hg (N := 1) ?hd (cs := #[.int .i64 a0_0, .bool a0_1]) (t := 23) ?hr ?_; (case hd => rfl); (case hg => rfl); (case hr => first | (go_simp; done) | (go_simp; rfl)); intro gb221 hg w74 hbox hb; have n0_ := Aside0.mk (below_step (by repeat (first | (with_reducible first | exact HB.out | apply below_alloc | apply pw_below_drewN | apply below_drew1) | exact HB.out)) hb); have n1_ := Aside0.mk (hbox); have n2_ := Aside0.mk ((by rw [hg]; exact (below_size (by repeat (first | (with_reducible first | exact HB.out | apply below_alloc | apply pw_below_drewN | apply below_drew1) | exact HB.out))) : w.heap.size ≤ gb221)); have n3_ := Aside0.mk ((by rw [hg]; exact (below_size (by repeat (first | (with_reducible first | exact HB.out | apply below_alloc | apply pw_below_drewN | apply below_drew1) | exact HB.out))) : w.heap.size ≤ gb221)); clear HB; have HB := n0_; have BK221 := n1_; have GW221 := n2_; have GE221 := n3_; clear n0_ n1_ n2_ n3_; clear hb hbox hg; have hcz75_0 : w74.cell? ⟨gb221, 0, none⟩ = some (.int .i64 a0_0) := (blk_cell BK221.out 0).trans rfl; have hcz75_1 : w74.cell? ⟨gb221, 1, none⟩ = some (.bool a0_1) := (blk_cell BK221.out 1).trans rfl; have hfz75_0 := blk_frozen BK221.out 0; have hfz75_1 := blk_frozen BK221.out 1) | ((with_reducible refine gate_callee (f := 15) rfl ?_); refine goesL_ (some 15) rfl rfl Try.func15 (by kernel_rfl) rfl #[.agg #[.int .i64 a0_0, .bool a0_1]] rfl (by (try simp only [List.map_toArray, List.map_cons, List.map_nil]); first | done | rfl | (simp only [List.length_drop, List.length_take]; rfl)) ?_; (with_reducible refine (errseq_Sample.calls a0_0 a0_1 t222 t223 _ A2.out).mono ?_); rintro e w76 ⟨rfl, hb⟩; refine ⟨_, rfl, ?_⟩; have n0_ := Aside0.mk (blk_below (g := gb221) (o := .cells #[.int .i64 a0_0, .bool a0_1] 23 (0, 0)) (by (with_reducible repeat (first | refine blk_drewN ?_ _ | refine blk_drew ?_ | refine blk_alloc ?_ _)); exact BK221.out) hb); have n1_ := Aside0.mk (below_step (by repeat (first | (with_reducible first | exact HB.out | apply below_alloc | apply pw_below_drewN | apply below_drew1 | refine below_set ?_ GE221.out) | exact HB.out)) hb); clear BK221; clear HB; have BK221 := n0_; have HB := n1_; clear n0_ n1_; (try clear hb); (try clear hb2); (try clear hk); (try clear hi)))
      go_ret
      exact ⟨by first | rfl | (simp [errW_none, errW_some] <;> rfl) | (simp [*, errW_none, errW_some] <;> rfl), by repeat (first | (with_reducible first | exact HB.out | apply below_alloc | apply pw_below_drewN | apply below_drew1 | refine below_set ?_ GE221.out) | exact HB.out)⟩

end Go.Proofs.Ytminfgfigpiajaa.E

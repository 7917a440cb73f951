-- Written by a program of this session (own_print.py) that runs the kit's printer. Lean checks it.
import Derived.Test.YtfobedaepflidaaF0
import Derived.Test.YtfobedaepflidaaF3
import Derived.Test.YtfobedaepflidaaF7
namespace Go.Proofs.Ytfobedaepflidaa.F
open Go.RowKit Go.Proofs.YtfobedaepflidaaW.PrintWords Go.Proofs.YtfobedaepflidaaW.PrintLast Go.Proofs.YtfobedaepflidaaW.PrintMore
attribute [local go_sem] max2_int min2_int max_two min_two max_three min_three max_four min_four   -- for this text's walks alone
set_option linter.unusedVariables false
set_option linter.unusedSimpArgs false

attribute [local go_sem ↓ high] ld23a sv23a
attribute [local go_sem high] ld23 sv23
/-! ### faultplan_Plan: function 13 -/
theorem faultplan_rules.wait (x : Int) (w : World) :
    Calls Try.prog 29 #[.int .i64 x] w fun e w' => e = .returned (.agg #[.int .i64 2, .int .i64 0, .int .i64 x, .int .i64 0, .int .i64 0]) ∧ Below w.heap.size w w' := by
  have hu28 := Try.underlying28
  have HB := Aside0.mk (Below.refl w.heap.size w)
  go_enter Try.func29, Try.ntmps29
  go_wp2_with (first | ((with_reducible refine gate_dst (N := 2) rfl ?_); refine box_event ?hg (N := 2) ?hd (cs := #[.int .i64 0, .int .i64 0, .int .i64 0, .int .i64 0, .int .i64 0]) (t := 28) ?hr ?_; (case hd => rfl); (case hg => rfl); (case hr => first | (go_simp; done) | (go_simp; rfl)); intro g hg w4 hbox hb; have n0_ := Aside0.mk (below_step HB.out hb); have BK := Aside0.mk hbox; have GE : Aside0 (w.heap.size ≤ g) := Aside0.mk (by rw [hg]; exact below_size HB.out); clear HB hb hbox hg; have HB := n0_; clear n0_; have hz0 : w4.cell? ⟨g, 0, none⟩ = some (.int .i64 0) := (blk_cell BK.out 0).trans rfl; have hf0 := blk_frozen BK.out 0; have hz1 : w4.cell? ⟨g, 1, none⟩ = some (.int .i64 0) := (blk_cell BK.out 1).trans rfl; have hf1 := blk_frozen BK.out 1; have hz2 : w4.cell? ⟨g, 2, none⟩ = some (.int .i64 0) := (blk_cell BK.out 2).trans rfl; have hf2 := blk_frozen BK.out 2; have hz3 : w4.cell? ⟨g, 3, none⟩ = some (.int .i64 0) := (blk_cell BK.out 3).trans rfl; have hf3 := blk_frozen BK.out 3; have hz4 : w4.cell? ⟨g, 4, none⟩ = some (.int .i64 0) := (blk_cell BK.out 4).trans rfl; have hf4 := blk_frozen BK.out 4))
  refine bodyPost_ret (results_cell_row rfl _ _ g 28 #[.int .i64 2, .int .i64 0, .int .i64 x, .int .i64 0, .int .i64 0] (0, 0) _ rfl (by refine blk_put (cs := #[.int .i64 2, .int .i64 0, .int .i64 x, .int .i64 0, .int .i64 0]) ?_ 4 _ rfl; refine blk_put (cs := #[.int .i64 2, .int .i64 0, .int .i64 x, .int .i64 0, .int .i64 0]) ?_ 3 _ rfl; refine blk_put (cs := #[.int .i64 2, .int .i64 0, .int .i64 0, .int .i64 0, .int .i64 0]) ?_ 2 _ rfl; refine blk_put (cs := #[.int .i64 2, .int .i64 0, .int .i64 0, .int .i64 0, .int .i64 0]) ?_ 1 _ rfl; refine blk_put (cs := #[.int .i64 0, .int .i64 0, .int .i64 0, .int .i64 0, .int .i64 0]) ?_ 0 _ rfl; exact BK.out) Try.underlying28 rfl (by kernel_rfl)) rfl ?_
  exact ⟨rfl, by repeat (first | (with_reducible first | exact HB.out | refine below_set ?_ GE.out) | exact HB.out)⟩
theorem faultplan_rules.fail (x : Int) (w : World) :
    Calls Try.prog 30 #[.int .i64 x] w fun e w' => e = .returned (.agg #[.int .i64 1, .int .i64 x, .int .i64 0, .int .i64 0, .int .i64 0]) ∧ Below w.heap.size w w' := by
  have hu28 := Try.underlying28
  have HB := Aside0.mk (Below.refl w.heap.size w)
  go_enter Try.func30, Try.ntmps30
  go_wp2_with (first | ((with_reducible refine gate_dst (N := 2) rfl ?_); refine box_event ?hg (N := 2) ?hd (cs := #[.int .i64 0, .int .i64 0, .int .i64 0, .int .i64 0, .int .i64 0]) (t := 28) ?hr ?_; (case hd => rfl); (case hg => rfl); (case hr => first | (go_simp; done) | (go_simp; rfl)); intro g hg w4 hbox hb; have n0_ := Aside0.mk (below_step HB.out hb); have BK := Aside0.mk hbox; have GE : Aside0 (w.heap.size ≤ g) := Aside0.mk (by rw [hg]; exact below_size HB.out); clear HB hb hbox hg; have HB := n0_; clear n0_; have hz0 : w4.cell? ⟨g, 0, none⟩ = some (.int .i64 0) := (blk_cell BK.out 0).trans rfl; have hf0 := blk_frozen BK.out 0; have hz1 : w4.cell? ⟨g, 1, none⟩ = some (.int .i64 0) := (blk_cell BK.out 1).trans rfl; have hf1 := blk_frozen BK.out 1; have hz2 : w4.cell? ⟨g, 2, none⟩ = some (.int .i64 0) := (blk_cell BK.out 2).trans rfl; have hf2 := blk_frozen BK.out 2; have hz3 : w4.cell? ⟨g, 3, none⟩ = some (.int .i64 0) := (blk_cell BK.out 3).trans rfl; have hf3 := blk_frozen BK.out 3; have hz4 : w4.cell? ⟨g, 4, none⟩ = some (.int .i64 0) := (blk_cell BK.out 4).trans rfl; have hf4 := blk_frozen BK.out 4))
  refine bodyPost_ret (results_cell_row rfl _ _ g 28 #[.int .i64 1, .int .i64 x, .int .i64 0, .int .i64 0, .int .i64 0] (0, 0) _ rfl (by refine blk_put (cs := #[.int .i64 1, .int .i64 x, .int .i64 0, .int .i64 0, .int .i64 0]) ?_ 4 _ rfl; refine blk_put (cs := #[.int .i64 1, .int .i64 x, .int .i64 0, .int .i64 0, .int .i64 0]) ?_ 3 _ rfl; refine blk_put (cs := #[.int .i64 1, .int .i64 x, .int .i64 0, .int .i64 0, .int .i64 0]) ?_ 2 _ rfl; refine blk_put (cs := #[.int .i64 1, .int .i64 0, .int .i64 0, .int .i64 0, .int .i64 0]) ?_ 1 _ rfl; refine blk_put (cs := #[.int .i64 0, .int .i64 0, .int .i64 0, .int .i64 0, .int .i64 0]) ?_ 0 _ rfl; exact BK.out) Try.underlying28 rfl (by kernel_rfl)) rfl ?_
  exact ⟨rfl, by repeat (first | (with_reducible first | exact HB.out | refine below_set ?_ GE.out) | exact HB.out)⟩
theorem faultplan_rules.act (x : Int) (y : Int) (z : Int) (w : World) :
    Calls Try.prog 31 #[.int .i64 x, .int .i64 y, .int .i64 z] w fun e w' => e = .returned (.agg #[.int .i64 x, .int .i64 0, .int .i64 0, .int .i64 y, .int .i64 z]) ∧ Below w.heap.size w w' := by
  have hu28 := Try.underlying28
  have HB := Aside0.mk (Below.refl w.heap.size w)
  go_enter Try.func31, Try.ntmps31
  go_wp2_with (first | ((with_reducible refine gate_dst (N := 6) rfl ?_); refine box_event ?hg (N := 6) ?hd (cs := #[.int .i64 0, .int .i64 0, .int .i64 0, .int .i64 0, .int .i64 0]) (t := 28) ?hr ?_; (case hd => rfl); (case hg => rfl); (case hr => first | (go_simp; done) | (go_simp; rfl)); intro g hg w4 hbox hb; have n0_ := Aside0.mk (below_step HB.out hb); have BK := Aside0.mk hbox; have GE : Aside0 (w.heap.size ≤ g) := Aside0.mk (by rw [hg]; exact below_size HB.out); clear HB hb hbox hg; have HB := n0_; clear n0_; have hz0 : w4.cell? ⟨g, 0, none⟩ = some (.int .i64 0) := (blk_cell BK.out 0).trans rfl; have hf0 := blk_frozen BK.out 0; have hz1 : w4.cell? ⟨g, 1, none⟩ = some (.int .i64 0) := (blk_cell BK.out 1).trans rfl; have hf1 := blk_frozen BK.out 1; have hz2 : w4.cell? ⟨g, 2, none⟩ = some (.int .i64 0) := (blk_cell BK.out 2).trans rfl; have hf2 := blk_frozen BK.out 2; have hz3 : w4.cell? ⟨g, 3, none⟩ = some (.int .i64 0) := (blk_cell BK.out 3).trans rfl; have hf3 := blk_frozen BK.out 3; have hz4 : w4.cell? ⟨g, 4, none⟩ = some (.int .i64 0) := (blk_cell BK.out 4).trans rfl; have hf4 := blk_frozen BK.out 4))
  refine bodyPost_ret (results_cell_row rfl _ _ g 28 #[.int .i64 x, .int .i64 0, .int .i64 0, .int .i64 y, .int .i64 z] (0, 0) _ rfl (by refine blk_put (cs := #[.int .i64 x, .int .i64 0, .int .i64 0, .int .i64 y, .int .i64 0]) ?_ 4 _ rfl; refine blk_put (cs := #[.int .i64 x, .int .i64 0, .int .i64 0, .int .i64 0, .int .i64 0]) ?_ 3 _ rfl; refine blk_put (cs := #[.int .i64 x, .int .i64 0, .int .i64 0, .int .i64 0, .int .i64 0]) ?_ 2 _ rfl; refine blk_put (cs := #[.int .i64 x, .int .i64 0, .int .i64 0, .int .i64 0, .int .i64 0]) ?_ 1 _ rfl; refine blk_put (cs := #[.int .i64 0, .int .i64 0, .int .i64 0, .int .i64 0, .int .i64 0]) ?_ 0 _ rfl; exact BK.out) Try.underlying28 rfl (by kernel_rfl)) rfl ?_
  exact ⟨rfl, by repeat (first | (with_reducible first | exact HB.out | refine below_set ?_ GE.out) | exact HB.out)⟩
theorem faultplan_rules.t0 (G : Nat) (a0_1 : Bool) (w : World) (hc1 : w.cell? ⟨G, 1, none⟩ = some (.bool a0_1)) :
    Calls Try.prog 32 #[.pointer (some ⟨G, 0, none⟩)] w fun e w' => e = .returned (.bool !a0_1) ∧ Below w.heap.size w w' := by
  have hu23 := Try.underlying23
  have HB := Aside0.mk (Below.refl w.heap.size w)
  go_enter Try.func32, Try.ntmps32
  go_wp2
  all_goals (go_ret; exact ⟨by first | rfl | (simp [*]; done), HB.out⟩)
theorem faultplan_rules.t1 (G : Nat) (a0_0 : Bool) (a0_2 : Int) (w : World) (hc0 : w.cell? ⟨G, 0, none⟩ = some (.bool a0_0)) (hc2 : w.cell? ⟨G, 2, none⟩ = some (.int .i64 a0_2)) (h2 : a0_2 = 1 ∨ a0_2 = 3) :
    Calls Try.prog 33 #[.pointer (some ⟨G, 0, none⟩)] w fun e w' => e = .returned (.bool (a0_0 && (a0_2 == 1))) ∧ Below w.heap.size w w' := by
  have hu23 := Try.underlying23
  have HB := Aside0.mk (Below.refl w.heap.size w)
  have e1 : bits .and .i64 1 2 = 0 := by decide
  have e3 : bits .and .i64 3 2 = 2 := by decide
  have he : (a0_2 == 1) = decide (a0_2 = 1) := rfl
  rcases h2 with rfl | rfl
  ·
    cases a0_0
    ·
      go_enter Try.func33, Try.ntmps33
      go_wp2
      all_goals (go_ret; exact ⟨by first | rfl | (simp [*]; done), HB.out⟩)
    ·
      go_enter Try.func33, Try.ntmps33
      go_wp2
      all_goals (go_ret; exact ⟨by first | rfl | (simp [*]; done), HB.out⟩)
  ·
    cases a0_0
    ·
      go_enter Try.func33, Try.ntmps33
      go_wp2
      all_goals (go_ret; exact ⟨by first | rfl | (simp [*]; done), HB.out⟩)
    ·
      go_enter Try.func33, Try.ntmps33
      go_wp2
      all_goals (go_ret; exact ⟨by first | rfl | (simp [*]; done), HB.out⟩)
theorem faultplan_rules.t2 (G : Nat) (O : Nat) (a0_5 : Bool) (o : Bool) (w : World) (hc5 : w.cell? ⟨G, 5, none⟩ = some (.bool a0_5)) (hO : w.cell? ⟨O, 0, none⟩ = some (.bool o)) :
    Calls Try.prog 34 #[.pointer (some ⟨G, 0, none⟩), .pointer (some ⟨O, 0, none⟩)] w fun e w' => e = .returned (.bool (a0_5 && !o)) ∧ Below w.heap.size w w' := by
  have hu23 := Try.underlying23
  have HB := Aside0.mk (Below.refl w.heap.size w)
  cases a0_5
  ·
    go_enter Try.func34, Try.ntmps34
    go_wp2
    all_goals (go_ret; exact ⟨by first | rfl | (simp [*]; done), HB.out⟩)
  ·
    go_enter Try.func34, Try.ntmps34
    go_wp2
    all_goals (go_ret; exact ⟨by first | rfl | (simp [*]; done), HB.out⟩)
theorem faultplan_rules.t3 (P : Nat) (G : Nat) (a0_0 : Bool) (a0_8 : Bool) (p : Bool) (w : World) (hP : w.cell? ⟨P, 0, none⟩ = some (.bool p)) (hc0 : w.cell? ⟨G, 0, none⟩ = some (.bool a0_0)) (hc8 : w.cell? ⟨G, 8, none⟩ = some (.bool a0_8)) :
    Calls Try.prog 35 #[.pointer (some ⟨P, 0, none⟩), .pointer (some ⟨G, 0, none⟩)] w fun e w' => e = .returned (.bool (p && (!a0_0 || a0_8))) ∧ Below w.heap.size w w' := by
  have hu23 := Try.underlying23
  have HB := Aside0.mk (Below.refl w.heap.size w)
  cases p
  ·
    cases a0_0
    ·
      go_enter Try.func35, Try.ntmps35
      go_wp2
      all_goals (go_ret; exact ⟨by first | rfl | (simp [*]; done), HB.out⟩)
    ·
      go_enter Try.func35, Try.ntmps35
      go_wp2
      all_goals (go_ret; exact ⟨by first | rfl | (simp [*]; done), HB.out⟩)
  ·
    cases a0_0
    ·
      go_enter Try.func35, Try.ntmps35
      go_wp2
      all_goals (go_ret; exact ⟨by first | rfl | (simp [*]; done), HB.out⟩)
    ·
      go_enter Try.func35, Try.ntmps35
      go_wp2
      all_goals (go_ret; exact ⟨by first | rfl | (simp [*]; done), HB.out⟩)
theorem faultplan_rules.t4 (G : Nat) (O : Nat) (a0_6 : Bool) (o : Bool) (w : World) (hc6 : w.cell? ⟨G, 6, none⟩ = some (.bool a0_6)) (hO : w.cell? ⟨O, 0, none⟩ = some (.bool o)) :
    Calls Try.prog 36 #[.pointer (some ⟨G, 0, none⟩), .pointer (some ⟨O, 0, none⟩)] w fun e w' => e = .returned (.bool (a0_6 && !o)) ∧ Below w.heap.size w w' := by
  have hu23 := Try.underlying23
  have HB := Aside0.mk (Below.refl w.heap.size w)
  cases a0_6
  ·
    go_enter Try.func36, Try.ntmps36
    go_wp2
    all_goals (go_ret; exact ⟨by first | rfl | (simp [*]; done), HB.out⟩)
  ·
    go_enter Try.func36, Try.ntmps36
    go_wp2
    all_goals (go_ret; exact ⟨by first | rfl | (simp [*]; done), HB.out⟩)
theorem faultplan_rules.t5 (G : Nat) (a0_9 : Bool) (w : World) (hc9 : w.cell? ⟨G, 9, none⟩ = some (.bool a0_9)) :
    Calls Try.prog 37 #[.pointer (some ⟨G, 0, none⟩)] w fun e w' => e = .returned (.bool a0_9) ∧ Below w.heap.size w w' := by
  have hu23 := Try.underlying23
  have HB := Aside0.mk (Below.refl w.heap.size w)
  go_enter Try.func37, Try.ntmps37
  go_wp2
  all_goals (go_ret; exact ⟨by first | rfl | (simp [*]; done), HB.out⟩)
theorem faultplan_rules.t6 (P : Nat) (G : Nat) (a0_10 : Bool) (a0_11 : Bool) (p : Bool) (w : World) (hP : w.cell? ⟨P, 0, none⟩ = some (.bool p)) (hc10 : w.cell? ⟨G, 10, none⟩ = some (.bool a0_10)) (hc11 : w.cell? ⟨G, 11, none⟩ = some (.bool a0_11)) :
    Calls Try.prog 38 #[.pointer (some ⟨P, 0, none⟩), .pointer (some ⟨G, 0, none⟩)] w fun e w' => e = .returned (.bool (p && a0_10 && a0_11)) ∧ Below w.heap.size w w' := by
  have hu23 := Try.underlying23
  have HB := Aside0.mk (Below.refl w.heap.size w)
  cases p
  ·
    cases a0_10
    ·
      go_enter Try.func38, Try.ntmps38
      go_wp2
      all_goals (go_ret; exact ⟨by first | rfl | (simp [*]; done), HB.out⟩)
    ·
      go_enter Try.func38, Try.ntmps38
      go_wp2
      all_goals (go_ret; exact ⟨by first | rfl | (simp [*]; done), HB.out⟩)
  ·
    cases a0_10
    ·
      go_enter Try.func38, Try.ntmps38
      go_wp2
      all_goals (go_ret; exact ⟨by first | rfl | (simp [*]; done), HB.out⟩)
    ·
      go_enter Try.func38, Try.ntmps38
      go_wp2
      all_goals (go_ret; exact ⟨by first | rfl | (simp [*]; done), HB.out⟩)
theorem faultplan_rules.t7 (P : Nat) (G : Nat) (a0_3 : Bool) (a0_10 : Bool) (p : Bool) (w : World) (hP : w.cell? ⟨P, 0, none⟩ = some (.bool p)) (hc10 : w.cell? ⟨G, 10, none⟩ = some (.bool a0_10)) (hc3 : w.cell? ⟨G, 3, none⟩ = some (.bool a0_3)) :
    Calls Try.prog 39 #[.pointer (some ⟨P, 0, none⟩), .pointer (some ⟨G, 0, none⟩)] w fun e w' => e = .returned (.bool (p && (a0_10 || !a0_3))) ∧ Below w.heap.size w w' := by
  have hu23 := Try.underlying23
  have HB := Aside0.mk (Below.refl w.heap.size w)
  cases p
  ·
    cases a0_10
    ·
      go_enter Try.func39, Try.ntmps39
      go_wp2
      all_goals (go_ret; exact ⟨by first | rfl | (simp [*]; done), HB.out⟩)
    ·
      go_enter Try.func39, Try.ntmps39
      go_wp2
      all_goals (go_ret; exact ⟨by first | rfl | (simp [*]; done), HB.out⟩)
  ·
    cases a0_10
    ·
      go_enter Try.func39, Try.ntmps39
      go_wp2
      all_goals (go_ret; exact ⟨by first | rfl | (simp [*]; done), HB.out⟩)
    ·
      go_enter Try.func39, Try.ntmps39
      go_wp2
      all_goals (go_ret; exact ⟨by first | rfl | (simp [*]; done), HB.out⟩)
theorem faultplan_rules.t8 (P : Nat) (G : Nat) (a0_14 : Bool) (a0_15 : Bool) (p : Bool) (w : World) (hP : w.cell? ⟨P, 0, none⟩ = some (.bool p)) (hc14 : w.cell? ⟨G, 14, none⟩ = some (.bool a0_14)) (hc15 : w.cell? ⟨G, 15, none⟩ = some (.bool a0_15)) :
    Calls Try.prog 40 #[.pointer (some ⟨P, 0, none⟩), .pointer (some ⟨G, 0, none⟩)] w fun e w' => e = .returned (.bool (p && !a0_14 && a0_15)) ∧ Below w.heap.size w w' := by
  have hu23 := Try.underlying23
  have HB := Aside0.mk (Below.refl w.heap.size w)
  cases p
  ·
    cases a0_14
    ·
      go_enter Try.func40, Try.ntmps40
      go_wp2
      all_goals (go_ret; exact ⟨by first | rfl | (simp [*]; done), HB.out⟩)
    ·
      go_enter Try.func40, Try.ntmps40
      go_wp2
      all_goals (go_ret; exact ⟨by first | rfl | (simp [*]; done), HB.out⟩)
  ·
    cases a0_14
    ·
      go_enter Try.func40, Try.ntmps40
      go_wp2
      all_goals (go_ret; exact ⟨by first | rfl | (simp [*]; done), HB.out⟩)
    ·
      go_enter Try.func40, Try.ntmps40
      go_wp2
      all_goals (go_ret; exact ⟨by first | rfl | (simp [*]; done), HB.out⟩)
theorem faultplan_rules.t9 (P : Nat) (p : Bool) (w : World) (hP : w.cell? ⟨P, 0, none⟩ = some (.bool p)) :
    Calls Try.prog 41 #[.pointer (some ⟨P, 0, none⟩)] w fun e w' => e = .returned (.bool p) ∧ Below w.heap.size w w' := by
  have HB := Aside0.mk (Below.refl w.heap.size w)
  go_enter Try.func41, Try.ntmps41
  go_wp2
  all_goals (go_ret; exact ⟨by first | rfl | (simp [*]; done), HB.out⟩)
theorem faultplan_rules.t10 (S : Nat) (G : Nat) (a0_12 : Bool) (s : Bool) (w : World) (hS : w.cell? ⟨S, 0, none⟩ = some (.bool s)) (hc12 : w.cell? ⟨G, 12, none⟩ = some (.bool a0_12)) :
    Calls Try.prog 42 #[.pointer (some ⟨S, 0, none⟩), .pointer (some ⟨G, 0, none⟩)] w fun e w' => e = .returned (.bool (s && a0_12)) ∧ Below w.heap.size w w' := by
  have hu23 := Try.underlying23
  have HB := Aside0.mk (Below.refl w.heap.size w)
  cases s
  ·
    go_enter Try.func42, Try.ntmps42
    go_wp2
    all_goals (go_ret; exact ⟨by first | rfl | (simp [*]; done), HB.out⟩)
  ·
    go_enter Try.func42, Try.ntmps42
    go_wp2
    all_goals (go_ret; exact ⟨by first | rfl | (simp [*]; done), HB.out⟩)
theorem faultplan_rules.t11 (S : Nat) (s : Bool) (w : World) (hS : w.cell? ⟨S, 0, none⟩ = some (.bool s)) :
    Calls Try.prog 43 #[.pointer (some ⟨S, 0, none⟩)] w fun e w' => e = .returned (.bool s) ∧ Below w.heap.size w w' := by
  have HB := Aside0.mk (Below.refl w.heap.size w)
  go_enter Try.func43, Try.ntmps43
  go_wp2
  all_goals (go_ret; exact ⟨by first | rfl | (simp [*]; done), HB.out⟩)
theorem faultplan_rules.t12 (G : Nat) (a0_4 : Bool) (w : World) (hc4 : w.cell? ⟨G, 4, none⟩ = some (.bool a0_4)) :
    Calls Try.prog 44 #[.pointer (some ⟨G, 0, none⟩)] w fun e w' => e = .returned (.bool !a0_4) ∧ Below w.heap.size w w' := by
  have hu23 := Try.underlying23
  have HB := Aside0.mk (Below.refl w.heap.size w)
  go_enter Try.func44, Try.ntmps44
  go_wp2
  all_goals (go_ret; exact ⟨by first | rfl | (simp [*]; done), HB.out⟩)
theorem faultplan_rules.t13 (G : Nat) (a0_12 : Bool) (w : World) (hc12 : w.cell? ⟨G, 12, none⟩ = some (.bool a0_12)) :
    Calls Try.prog 45 #[.pointer (some ⟨G, 0, none⟩)] w fun e w' => e = .returned (.bool a0_12) ∧ Below w.heap.size w w' := by
  have hu23 := Try.underlying23
  have HB := Aside0.mk (Below.refl w.heap.size w)
  go_enter Try.func45, Try.ntmps45
  go_wp2
  all_goals (go_ret; exact ⟨by first | rfl | (simp [*]; done), HB.out⟩)
theorem faultplan_rules.t14 (G : Nat) (a0_13 : Bool) (w : World) (hc13 : w.cell? ⟨G, 13, none⟩ = some (.bool a0_13)) :
    Calls Try.prog 46 #[.pointer (some ⟨G, 0, none⟩)] w fun e w' => e = .returned (.bool !a0_13) ∧ Below w.heap.size w w' := by
  have hu23 := Try.underlying23
  have HB := Aside0.mk (Below.refl w.heap.size w)
  go_enter Try.func46, Try.ntmps46
  go_wp2
  all_goals (go_ret; exact ⟨by first | rfl | (simp [*]; done), HB.out⟩)
theorem faultplan_rules.t15   (w : World)  :
    Calls Try.prog 47 #[] w fun e w' => e = .returned (.bool true) ∧ Below w.heap.size w w' := by
  have HB := Aside0.mk (Below.refl w.heap.size w)
  go_enter Try.func47, Try.ntmps47
  go_wp2
  all_goals (go_ret; exact ⟨by first | rfl | (simp [*]; done), HB.out⟩)

theorem faultplan_Plan.ld {ρ : Operand → Value} {o : Oper} {w : World} {g : Nat} {cs : Array Value} (t : TypeId) (x : Operand) (fs : Array Field) (ho : o.op = .load t x) (hx : ρ x = .pointer (some ⟨g, 0, none⟩)) (hg : w.heap[g]? = some (.cells cs t (0, 0)))
    (hu : Try.prog.underlying t = some (.struct fs)) (hi : (Try.prog.info? t).map (·.size) = some cs.size) :
    (execOp ρ o).run Try.prog w = .ok (.value (.agg cs)) w := by
  have h := run_loadVar_row w g t t cs (0, 0) (.struct fs) hg hu rfl hi
  unfold execOp
  simp only [ho, hx, Instr.loadAt, Instr.sureAddr, Sem.run_bind, Sem.run_pure, Result.andThen_ok, h]
theorem faultplan_rules.goesV {P : Program} {ops : Array Oper} {Q : Exit → Act → World → Prop} {oi : Oper} {N : Option Tmp} {a : Act} {w : World} {K : Act → World → Prop} {f : FuncId} {fn : Func} {xs : Array Operand} {ts : Array TypeId} (hf : P.funcs[f]? = some fn) (hname : (fn.name == "runtime.NumGoroutine") = false) (hb : fn.body.isSome = true) (args : Array Value) (x : Operand)
    (hw : Region.wanted oi (yielded ops a.tmps) = true) (hN : oi.dst = N) (hop : oi.op = .call { callee := .value x, args := xs, argTypes := ts }) (hx : a.eval x = .func (.func f) #[] #[]) (hargs : xs.map a.eval = args)
    (h : Calls P f args w fun e w' => ∃ v, e = .returned v ∧ K (a.put N v) w') : if Region.wanted oi (yielded ops a.tmps) = true then Oper.wp P oi a w K Q else K (a.put N undef) w := by
  refine call_ f args hw hN ?_ h
  have he := enters_ hf hname hb args w
  unfold execOp
  simp [hop, resolve, Deferred.ofValue, invoke, hx, hargs, he]

def faultplan_rules.rows (G O P S : Nat) (a0_16 : Int) : Array Value := #[.func (.func 32) #[] #[.pointer (some ⟨G, 0, none⟩)], .int .i64 1, .int .i64 13, .int .i64 0, .int .i64 0, .int .i64 0,
  .func (.func 33) #[] #[.pointer (some ⟨G, 0, none⟩)], .int .i64 1, .int .i64 12, .int .i64 0, .int .i64 0, .int .i64 0,
  .func (.func 34) #[] #[.pointer (some ⟨G, 0, none⟩), .pointer (some ⟨O, 0, none⟩)], .int .i64 1, .int .i64 14, .int .i64 0, .int .i64 0, .int .i64 0,
  .func (.func 35) #[] #[.pointer (some ⟨P, 0, none⟩), .pointer (some ⟨G, 0, none⟩)], .int .i64 0, .int .i64 0, .int .i64 0, .int .i64 0, .int .i64 0,
  .func (.func 36) #[] #[.pointer (some ⟨G, 0, none⟩), .pointer (some ⟨O, 0, none⟩)], .int .i64 2, .int .i64 0, .int .i64 4, .int .i64 0, .int .i64 0,
  .func (.func 37) #[] #[.pointer (some ⟨G, 0, none⟩)], .int .i64 2, .int .i64 0, .int .i64 3, .int .i64 0, .int .i64 0,
  .func (.func 38) #[] #[.pointer (some ⟨P, 0, none⟩), .pointer (some ⟨G, 0, none⟩)], .int .i64 8, .int .i64 0, .int .i64 0, .int .i64 0, .int .i64 0,
  .func (.func 39) #[] #[.pointer (some ⟨P, 0, none⟩), .pointer (some ⟨G, 0, none⟩)], .int .i64 9, .int .i64 0, .int .i64 0, .int .i64 0, .int .i64 1,
  .func (.func 40) #[] #[.pointer (some ⟨P, 0, none⟩), .pointer (some ⟨G, 0, none⟩)], .int .i64 2, .int .i64 0, .int .i64 5, .int .i64 0, .int .i64 0,
  .func (.func 41) #[] #[.pointer (some ⟨P, 0, none⟩)], .int .i64 7, .int .i64 0, .int .i64 0, .int .i64 0, .int .i64 0,
  .func (.func 42) #[] #[.pointer (some ⟨S, 0, none⟩), .pointer (some ⟨G, 0, none⟩)], .int .i64 10, .int .i64 0, .int .i64 0, .int .i64 0, .int .i64 0,
  .func (.func 43) #[] #[.pointer (some ⟨S, 0, none⟩)], .int .i64 11, .int .i64 0, .int .i64 0, .int .i64 0, .int .i64 1,
  .func (.func 44) #[] #[.pointer (some ⟨G, 0, none⟩)], .int .i64 3, .int .i64 0, .int .i64 0, .int .i64 a0_16, .int .i64 1,
  .func (.func 45) #[] #[.pointer (some ⟨G, 0, none⟩)], .int .i64 6, .int .i64 0, .int .i64 0, .int .i64 a0_16, .int .i64 0,
  .func (.func 46) #[] #[.pointer (some ⟨G, 0, none⟩)], .int .i64 4, .int .i64 0, .int .i64 0, .int .i64 a0_16, .int .i64 1,
  .func (.func 47) #[] #[], .int .i64 5, .int .i64 0, .int .i64 0, .int .i64 0, .int .i64 1]
theorem faultplan_rules.new2 (w : World) (a b : Obj) : ((w.alloc a).alloc b).heap[w.heap.size + 1]? = some b := by
  have h := blk_new (w.alloc a) b
  simpa using h
theorem faultplan_rules.ne {w : World} {g g' : Nat} {t t' : TypeId} {cs cs' : Array Value} (h : w.heap[g]? = some (.cells cs t (0, 0))) (h' : w.heap[g']? = some (.cells cs' t' (0, 0))) (hne : t ≠ t') : g ≠ g' := by
  rintro rfl
  rw [h] at h'
  simp at h'
  exact hne h'.2
def faultplan_rules.T6 : Bool × List (List Nat × List Nat) := (true, [([], []), ([], []), ([1], [1]), ([0, 2], [0, 2]), ([], []), ([], []), ([5, 2], [5]), ([4, 6], [4, 6]), ([], []), ([], []), ([9, 6], [9]), ([8, 10], [8, 10]), ([], []), ([], []), ([13, 10], [13]), ([12, 14], [12, 14]), ([], []), ([], []), ([17, 14], [17]), ([16, 18], [16, 18]), ([], []), ([], []), ([21, 18], [21]), ([20, 22], [20, 22]), ([], []), ([], []), ([25, 22], [25]), ([24, 26], [24, 26]), ([], []), ([], []), ([29, 26], [29]), ([28, 30], [28, 30]), ([], []), ([], []), ([33, 30], [33]), ([32, 34], [32, 34]), ([], []), ([], []), ([37, 34], [37]), ([36, 38], [36, 38]), ([], []), ([], []), ([41, 38], [41]), ([40, 42], [40, 42]), ([], []), ([], []), ([45, 42], [45]), ([44, 46], [44, 46]), ([], []), ([], []), ([], []), ([50], [50]), ([49, 51, 46], [49, 51]), ([48, 52], [48, 52]), ([], []), ([], []), ([], []), ([56], [56]), ([55, 57, 52], [55, 57]), ([54, 58], [54, 58]), ([], []), ([], []), ([], []), ([62], [62]), ([61, 63, 58], [61, 63]), ([60, 64], [60, 64]), ([], []), ([66, 64], [66]), ([67], [67]), ([3, 7, 11, 15, 19, 23, 27, 31, 35, 39, 43, 47, 53, 59, 65, 68], [3, 7, 11, 15, 19, 23, 27, 31, 35, 39, 43, 47, 53, 59, 65, 68]), ([69, 67, 0, 1, 2, 3, 4, 5, 6, 7, 8, 9, 10, 11, 12, 13, 14, 15, 16, 17, 18, 19, 20, 21, 22, 23, 24, 25, 26, 27, 28, 29, 30, 31, 32, 33, 34, 35, 36, 37, 38, 39, 40, 41, 42, 43, 44, 45, 46, 47, 48, 49, 50, 51, 52, 53, 54, 55, 56, 57, 58, 59, 60, 61, 62, 63, 64, 65, 66, 67, 68, 69], [69])])
def faultplan_rules.B6 : List Nat := [0, 0, 2, 7, 0, 0, 38, 118, 0, 0, 614, 1894, 0, 0, 9830, 30310, 0, 0, 157286, 484966, 0, 0, 2516582, 7759462, 0, 0, 40265318, 124151398, 0, 0, 644245094, 1986422374, 0, 0, 10307921510, 31782757990, 0, 0, 164926744166, 508524127846, 0, 0, 2638827906662, 8136386045542, 0, 0, 42221246506598, 130182176728678, 0, 0, 0, 1125899906842624, 4053239664633446, 8838314268714598, 0, 0, 0, 72057594037927936, 260758418424751718, 567003193085945446, 0, 0, 0, 4611686018427387904, 16689889859072321126, 36289555437388719718, 0, 108923610227620079206, 256497562817296492134, 590295810358705651711, 1180591620717411303423]
theorem faultplan_rules.tab6 : rtab .any (opsOf Try.f20 6) = faultplan_rules.T6 := by kernel_rfl
theorem faultplan_rules.bits6 : waitsOk faultplan_rules.T6.2 faultplan_rules.B6 = true := by kernel_rfl
set_option maxHeartbeats 16000000 in
set_option maxRecDepth 100000 in
theorem faultplan_rules.calls (a0_0 : Bool) (a0_1 : Bool) (a0_2 : Int) (a0_3 : Bool) (a0_4 : Bool) (a0_5 : Bool) (a0_6 : Bool) (a0_7 : Int) (a0_8 : Bool) (a0_9 : Bool) (a0_10 : Bool) (a0_11 : Bool) (a0_12 : Bool) (a0_13 : Bool) (a0_14 : Bool) (a0_15 : Bool) (a0_16 : Int) (o p s : Bool) (w : World) (ho : faultplan_copied.f a0_0 a0_1 a0_2 a0_3 a0_4 a0_5 a0_6 a0_7 a0_8 a0_9 a0_10 a0_11 a0_12 a0_13 a0_14 a0_15 a0_16 = some o) (hp : (a0_7 == 1) = p) (hs : (a0_7 == 2) = s) :
    Calls Try.prog 20 #[.agg #[.bool a0_0, .bool a0_1, .int .i64 a0_2, .bool a0_3, .bool a0_4, .bool a0_5, .bool a0_6, .int .i64 a0_7, .bool a0_8, .bool a0_9, .bool a0_10, .bool a0_11, .bool a0_12, .bool a0_13, .bool a0_14, .bool a0_15, .int .i64 a0_16]] w fun e w' => ∃ G O P S b : Nat, e = .returned (.slice (some ⟨b, 0, none⟩) 16 16) ∧ Below w.heap.size w w' ∧ w'.heap[G]? = some (.cells #[.bool a0_0, .bool a0_1, .int .i64 a0_2, .bool a0_3, .bool a0_4, .bool a0_5, .bool a0_6, .int .i64 a0_7, .bool a0_8, .bool a0_9, .bool a0_10, .bool a0_11, .bool a0_12, .bool a0_13, .bool a0_14, .bool a0_15, .int .i64 a0_16] 23 (0, 0)) ∧ w'.heap[O]? = some (.cells #[.bool o] 4 (0, 0)) ∧ w'.heap[P]? = some (.cells #[.bool p] 4 (0, 0)) ∧ w'.heap[S]? = some (.cells #[.bool s] 4 (0, 0)) ∧ w'.heap[b]? = some (.cells (faultplan_rules.rows G O P S a0_16) 36 (0, 0)) := by
  have hu23 := Try.underlying23
  have hu28 := Try.underlying28
  have hu36 := Try.underlying36
  have HB := Aside0.mk (Below.refl w.heap.size w)
  have HO := Aside0.mk ho
  clear ho
  go_enter Try.func20, Try.ntmps20
  go_upto_region 2 with (first
    | ((with_reducible refine gate_dst (N := 1) rfl ?_); refine box_event ?hg (N := 1) ?hd (cs := #[.bool a0_0, .bool a0_1, .int .i64 a0_2, .bool a0_3, .bool a0_4, .bool a0_5, .bool a0_6, .int .i64 a0_7, .bool a0_8, .bool a0_9, .bool a0_10, .bool a0_11, .bool a0_12, .bool a0_13, .bool a0_14, .bool a0_15, .int .i64 a0_16]) (t := 23) ?hr ?_; (case hd => rfl); (case hg => rfl); (case hr => first | (go_simp; done) | (go_simp; rfl)); intro G hg w3 hbox hb; have n0_ := Aside0.mk (below_step HB.out hb); have BK := Aside0.mk hbox; clear HB hb hbox hg; have HB := n0_; clear n0_; have hc0 : w3.cell? ⟨G, 0, none⟩ = some (.bool a0_0) := (blk_cell BK.out 0).trans rfl; have hc1 : w3.cell? ⟨G, 1, none⟩ = some (.bool a0_1) := (blk_cell BK.out 1).trans rfl; have hc2 : w3.cell? ⟨G, 2, none⟩ = some (.int .i64 a0_2) := (blk_cell BK.out 2).trans rfl; have hc3 : w3.cell? ⟨G, 3, none⟩ = some (.bool a0_3) := (blk_cell BK.out 3).trans rfl; have hc4 : w3.cell? ⟨G, 4, none⟩ = some (.bool a0_4) := (blk_cell BK.out 4).trans rfl; have hc5 : w3.cell? ⟨G, 5, none⟩ = some (.bool a0_5) := (blk_cell BK.out 5).trans rfl; have hc6 : w3.cell? ⟨G, 6, none⟩ = some (.bool a0_6) := (blk_cell BK.out 6).trans rfl; have hc7 : w3.cell? ⟨G, 7, none⟩ = some (.int .i64 a0_7) := (blk_cell BK.out 7).trans rfl; have hc8 : w3.cell? ⟨G, 8, none⟩ = some (.bool a0_8) := (blk_cell BK.out 8).trans rfl; have hc9 : w3.cell? ⟨G, 9, none⟩ = some (.bool a0_9) := (blk_cell BK.out 9).trans rfl; have hc10 : w3.cell? ⟨G, 10, none⟩ = some (.bool a0_10) := (blk_cell BK.out 10).trans rfl; have hc11 : w3.cell? ⟨G, 11, none⟩ = some (.bool a0_11) := (blk_cell BK.out 11).trans rfl; have hc12 : w3.cell? ⟨G, 12, none⟩ = some (.bool a0_12) := (blk_cell BK.out 12).trans rfl; have hc13 : w3.cell? ⟨G, 13, none⟩ = some (.bool a0_13) := (blk_cell BK.out 13).trans rfl; have hc14 : w3.cell? ⟨G, 14, none⟩ = some (.bool a0_14) := (blk_cell BK.out 14).trans rfl; have hc15 : w3.cell? ⟨G, 15, none⟩ = some (.bool a0_15) := (blk_cell BK.out 15).trans rfl; have hc16 : w3.cell? ⟨G, 16, none⟩ = some (.int .i64 a0_16) := (blk_cell BK.out 16).trans rfl)
    | ((with_reducible refine gate_dst (N := 9) rfl ?_); refine Kd.event_run (v := .agg #[.bool a0_0, .bool a0_1, .int .i64 a0_2, .bool a0_3, .bool a0_4, .bool a0_5, .bool a0_6, .int .i64 a0_7, .bool a0_8, .bool a0_9, .bool a0_10, .bool a0_11, .bool a0_12, .bool a0_13, .bool a0_14, .bool a0_15, .int .i64 a0_16]) rfl (faultplan_Plan.ld 23 (.tmp 1) _ rfl rfl BK.out hu23 (by kernel_rfl)) ?_; clear hc0 hc1 hc2 hc3 hc4 hc5 hc6 hc7 hc8 hc9 hc10 hc11 hc12 hc13 hc14 hc15 hc16)
    | (go_at_call 28; (with_reducible refine (faultplan_copied.calls a0_0 a0_1 a0_2 a0_3 a0_4 a0_5 a0_6 a0_7 a0_8 a0_9 a0_10 a0_11 a0_12 a0_13 a0_14 a0_15 a0_16 o _ HO.out).mono ?_); rintro e w4 ⟨rfl, hb⟩; have n0_ := Aside0.mk (below_step HB.out hb); have n1_ := Aside0.mk (blk_below BK.out hb); clear HB BK hb; have HB := n0_; have BK := n1_; clear n0_ n1_)
    | ((with_reducible refine gate_dst (N := 3) rfl ?_); refine box_event ?hg (N := 3) ?hd (cs := #[.bool false]) (t := 4) ?hr ?_; (case hd => rfl); (case hg => rfl); (case hr => first | (go_simp; done) | (go_simp; rfl)); intro O hg w5 hbox hb; have n0_ := Aside0.mk (below_step HB.out hb); have n1_ := Aside0.mk (blk_below BK.out hb); have BO := Aside0.mk hbox; have GO : Aside0 (w.heap.size ≤ O) := Aside0.mk (by rw [hg]; exact below_size HB.out); clear HB BK hb hbox hg; have HB := n0_; have BK := n1_; clear n0_ n1_; have hco : w5.cell? ⟨O, 0, none⟩ = some (.bool false) := (blk_cell BO.out 0).trans rfl; have hfo := blk_frozen BO.out 0))
  have m0_ := Aside0.mk (blk_put (cs' := #[.bool o]) BO.out 0 (.bool o) rfl)
  have m1_ := Aside0.mk (blk_far BK.out (p := ⟨O, 0, none⟩) (faultplan_rules.ne BK.out BO.out (by decide)) (.bool o))
  have m2_ := Aside0.mk (below_set (j := 0) (v := .bool o) HB.out GO.out)
  clear BO BK HB hco hfo
  generalize w5.setCell ⟨O, 0, none⟩ (.bool o) = w6 at m0_ m1_ m2_ ⊢
  have BO := m0_; have BK := m1_; have HB := m2_
  clear m0_ m1_ m2_
  have hc7 : w6.cell? ⟨G, 7, none⟩ = some (.int .i64 a0_7) := (blk_cell BK.out 7).trans rfl
  go_cut [4, 5] from 11 to 16 (fun s4 s5 wx => ∃ P S : Nat, s4 = .pointer (some ⟨P, 0, none⟩) ∧ s5 = .pointer (some ⟨S, 0, none⟩) ∧ Aside0 (Below w.heap.size w wx) ∧ Aside0 (wx.heap[G]? = some (.cells #[.bool a0_0, .bool a0_1, .int .i64 a0_2, .bool a0_3, .bool a0_4, .bool a0_5, .bool a0_6, .int .i64 a0_7, .bool a0_8, .bool a0_9, .bool a0_10, .bool a0_11, .bool a0_12, .bool a0_13, .bool a0_14, .bool a0_15, .int .i64 a0_16] 23 (0, 0)) ∧ wx.heap[O]? = some (.cells #[.bool o] 4 (0, 0)) ∧ wx.heap[P]? = some (.cells #[.bool p] 4 (0, 0)) ∧ wx.heap[S]? = some (.cells #[.bool s] 4 (0, 0))))
  case first =>
    go_region_held3 (fun W => W.cell? ⟨G, 7, none⟩ = some (.int .i64 a0_7)) (go_keep) (first | fail)
    all_goals (go_wp2; go_meet)
    all_goals exact ⟨_, _, rfl, rfl, ⟨by repeat (first | exact HB.out | apply below_drew1 | apply below_alloc)⟩, ⟨blk_drew (blk_alloc (blk_alloc BK.out _) _), blk_drew (blk_alloc (blk_alloc BO.out _) _), by first | exact blk_alloc (blk_new w6 _) _ | exact faultplan_rules.new2 w6 _ _, by first | exact faultplan_rules.new2 w6 _ _ | exact blk_alloc (blk_new w6 _) _⟩⟩
  case rest =>
  obtain ⟨P, S, rfl, rfl, HB2, BB⟩ := hcut
  clear HB BK BO hc7
  have HB := HB2
  clear HB2
  go_upto_region 6 with fail
  obtain ⟨BK0, BO0, BP0, BS0⟩ := BB.out
  have BK := Aside0.mk BK0; have BO := Aside0.mk BO0; have BP := Aside0.mk BP0; have BS := Aside0.mk BS0
  clear BK0 BO0 BP0 BS0 BB
  simp only [List.append_eq, List.cons_append, List.nil_append]
  refine start_ (n := 71) (S := fun w' => w'.cell? ⟨G, 16, none⟩ = some (.int .i64 a0_16)) (ds := []) #[false, false, false, false, false, false, false, false, false, false, false, false, false, false, false, false, false, false, false, false, false, false, false, false, false, false, false, false, false, false, false, false, false, false, false, false, false, false, false, false, false, false, false, false, false, false, false, false, false, false, false, false, false, false, false, false, false, false, false, false, false, false, false, false, false, false, false, false, false, false, false] (by kernel_rfl) rfl rfl (((blk_cell (blk_drew BK.out) 16).trans rfl)) (fun hHeld => ?_)
  refine with_tabW faultplan_rules.tab6 faultplan_rules.bits6 (fun HT_ HW_ => ?_)
  refine pure_ (i := 0) (N := some 17) (v := ?_) (a' := ?_) #[true, false, false, false, false, false, false, false, false, false, false, false, false, false, false, false, false, false, false, false, false, false, false, false, false, false, false, false, false, false, false, false, false, false, false, false, false, false, false, false, false, false, false, false, false, false, false, false, false, false, false, false, false, false, false, false, false, false, false, false, false, false, false, false, false, false, false, false, false, false, false] rfl rfl (any_of HT_.out (by kernel_rfl)) (fun _ _ _ h => h) (Or.inl ⟨by rfl, ?_⟩) ?_ ?_
  rotate_left
  · intro w'
    go_simp
    with_reducible rfl
  rotate_left
  · simp only [Act.put, List.setIfInBounds_toArray, List.set_cons_zero, List.set_cons_succ, i64_w, i32_w]
    rfl
  refine pure_ (i := 1) (N := some 18) (v := ?_) (a' := ?_) #[true, true, false, false, false, false, false, false, false, false, false, false, false, false, false, false, false, false, false, false, false, false, false, false, false, false, false, false, false, false, false, false, false, false, false, false, false, false, false, false, false, false, false, false, false, false, false, false, false, false, false, false, false, false, false, false, false, false, false, false, false, false, false, false, false, false, false, false, false, false, false] rfl rfl (any_of HT_.out (by kernel_rfl)) (fun _ _ _ h => h) (Or.inl ⟨by rfl, ?_⟩) ?_ ?_
  rotate_left
  · intro w'
    go_simp
    with_reducible rfl
  rotate_left
  · simp only [Act.put, List.setIfInBounds_toArray, List.set_cons_zero, List.set_cons_succ, i64_w, i32_w]
    rfl
  refine pure_ (i := 4) (N := some 21) (v := ?_) (a' := ?_) #[true, true, false, false, true, false, false, false, false, false, false, false, false, false, false, false, false, false, false, false, false, false, false, false, false, false, false, false, false, false, false, false, false, false, false, false, false, false, false, false, false, false, false, false, false, false, false, false, false, false, false, false, false, false, false, false, false, false, false, false, false, false, false, false, false, false, false, false, false, false, false] rfl rfl (any_of HT_.out (by kernel_rfl)) (fun _ _ _ h => h) (Or.inl ⟨by rfl, ?_⟩) ?_ ?_
  rotate_left
  · intro w'
    go_simp
    with_reducible rfl
  rotate_left
  · simp only [Act.put, List.setIfInBounds_toArray, List.set_cons_zero, List.set_cons_succ, i64_w, i32_w]
    rfl
  refine pure_ (i := 5) (N := some 22) (v := ?_) (a' := ?_) #[true, true, false, false, true, true, false, false, false, false, false, false, false, false, false, false, false, false, false, false, false, false, false, false, false, false, false, false, false, false, false, false, false, false, false, false, false, false, false, false, false, false, false, false, false, false, false, false, false, false, false, false, false, false, false, false, false, false, false, false, false, false, false, false, false, false, false, false, false, false, false] rfl rfl (any_of HT_.out (by kernel_rfl)) (fun _ _ _ h => h) (Or.inl ⟨by rfl, ?_⟩) ?_ ?_
  rotate_left
  · intro w'
    go_simp
    with_reducible rfl
  rotate_left
  · simp only [Act.put, List.setIfInBounds_toArray, List.set_cons_zero, List.set_cons_succ, i64_w, i32_w]
    rfl
  refine pure_ (i := 8) (N := some 25) (v := ?_) (a' := ?_) #[true, true, false, false, true, true, false, false, true, false, false, false, false, false, false, false, false, false, false, false, false, false, false, false, false, false, false, false, false, false, false, false, false, false, false, false, false, false, false, false, false, false, false, false, false, false, false, false, false, false, false, false, false, false, false, false, false, false, false, false, false, false, false, false, false, false, false, false, false, false, false] rfl rfl (any_of HT_.out (by kernel_rfl)) (fun _ _ _ h => h) (Or.inl ⟨by rfl, ?_⟩) ?_ ?_
  rotate_left
  · intro w'
    go_simp
    with_reducible rfl
  rotate_left
  · simp only [Act.put, List.setIfInBounds_toArray, List.set_cons_zero, List.set_cons_succ, i64_w, i32_w]
    rfl
  refine pure_ (i := 9) (N := some 26) (v := ?_) (a' := ?_) #[true, true, false, false, true, true, false, false, true, true, false, false, false, false, false, false, false, false, false, false, false, false, false, false, false, false, false, false, false, false, false, false, false, false, false, false, false, false, false, false, false, false, false, false, false, false, false, false, false, false, false, false, false, false, false, false, false, false, false, false, false, false, false, false, false, false, false, false, false, false, false] rfl rfl (any_of HT_.out (by kernel_rfl)) (fun _ _ _ h => h) (Or.inl ⟨by rfl, ?_⟩) ?_ ?_
  rotate_left
  · intro w'
    go_simp
    with_reducible rfl
  rotate_left
  · simp only [Act.put, List.setIfInBounds_toArray, List.set_cons_zero, List.set_cons_succ, i64_w, i32_w]
    rfl
  refine pure_ (i := 12) (N := some 29) (v := ?_) (a' := ?_) #[true, true, false, false, true, true, false, false, true, true, false, false, true, false, false, false, false, false, false, false, false, false, false, false, false, false, false, false, false, false, false, false, false, false, false, false, false, false, false, false, false, false, false, false, false, false, false, false, false, false, false, false, false, false, false, false, false, false, false, false, false, false, false, false, false, false, false, false, false, false, false] rfl rfl (any_of HT_.out (by kernel_rfl)) (fun _ _ _ h => h) (Or.inl ⟨by rfl, ?_⟩) ?_ ?_
  rotate_left
  · intro w'
    go_simp
    with_reducible rfl
  rotate_left
  · simp only [Act.put, List.setIfInBounds_toArray, List.set_cons_zero, List.set_cons_succ, i64_w, i32_w]
    rfl
  refine pure_ (i := 13) (N := some 30) (v := ?_) (a' := ?_) #[true, true, false, false, true, true, false, false, true, true, false, false, true, true, false, false, false, false, false, false, false, false, false, false, false, false, false, false, false, false, false, false, false, false, false, false, false, false, false, false, false, false, false, false, false, false, false, false, false, false, false, false, false, false, false, false, false, false, false, false, false, false, false, false, false, false, false, false, false, false, false] rfl rfl (any_of HT_.out (by kernel_rfl)) (fun _ _ _ h => h) (Or.inl ⟨by rfl, ?_⟩) ?_ ?_
  rotate_left
  · intro w'
    go_simp
    with_reducible rfl
  rotate_left
  · simp only [Act.put, List.setIfInBounds_toArray, List.set_cons_zero, List.set_cons_succ, i64_w, i32_w]
    rfl
  refine pure_ (i := 16) (N := some 33) (v := ?_) (a' := ?_) #[true, true, false, false, true, true, false, false, true, true, false, false, true, true, false, false, true, false, false, false, false, false, false, false, false, false, false, false, false, false, false, false, false, false, false, false, false, false, false, false, false, false, false, false, false, false, false, false, false, false, false, false, false, false, false, false, false, false, false, false, false, false, false, false, false, false, false, false, false, false, false] rfl rfl (any_of HT_.out (by kernel_rfl)) (fun _ _ _ h => h) (Or.inl ⟨by rfl, ?_⟩) ?_ ?_
  rotate_left
  · intro w'
    go_simp
    with_reducible rfl
  rotate_left
  · simp only [Act.put, List.setIfInBounds_toArray, List.set_cons_zero, List.set_cons_succ, i64_w, i32_w]
    rfl
  refine pure_ (i := 17) (N := some 34) (v := ?_) (a' := ?_) #[true, true, false, false, true, true, false, false, true, true, false, false, true, true, false, false, true, true, false, false, false, false, false, false, false, false, false, false, false, false, false, false, false, false, false, false, false, false, false, false, false, false, false, false, false, false, false, false, false, false, false, false, false, false, false, false, false, false, false, false, false, false, false, false, false, false, false, false, false, false, false] rfl rfl (any_of HT_.out (by kernel_rfl)) (fun _ _ _ h => h) (Or.inl ⟨by rfl, ?_⟩) ?_ ?_
  rotate_left
  · intro w'
    go_simp
    with_reducible rfl
  rotate_left
  · simp only [Act.put, List.setIfInBounds_toArray, List.set_cons_zero, List.set_cons_succ, i64_w, i32_w]
    rfl
  refine pure_ (i := 20) (N := some 37) (v := ?_) (a' := ?_) #[true, true, false, false, true, true, false, false, true, true, false, false, true, true, false, false, true, true, false, false, true, false, false, false, false, false, false, false, false, false, false, false, false, false, false, false, false, false, false, false, false, false, false, false, false, false, false, false, false, false, false, false, false, false, false, false, false, false, false, false, false, false, false, false, false, false, false, false, false, false, false] rfl rfl (any_of HT_.out (by kernel_rfl)) (fun _ _ _ h => h) (Or.inl ⟨by rfl, ?_⟩) ?_ ?_
  rotate_left
  · intro w'
    go_simp
    with_reducible rfl
  rotate_left
  · simp only [Act.put, List.setIfInBounds_toArray, List.set_cons_zero, List.set_cons_succ, i64_w, i32_w]
    rfl
  refine pure_ (i := 21) (N := some 38) (v := ?_) (a' := ?_) #[true, true, false, false, true, true, false, false, true, true, false, false, true, true, false, false, true, true, false, false, true, true, false, false, false, false, false, false, false, false, false, false, false, false, false, false, false, false, false, false, false, false, false, false, false, false, false, false, false, false, false, false, false, false, false, false, false, false, false, false, false, false, false, false, false, false, false, false, false, false, false] rfl rfl (any_of HT_.out (by kernel_rfl)) (fun _ _ _ h => h) (Or.inl ⟨by rfl, ?_⟩) ?_ ?_
  rotate_left
  · intro w'
    go_simp
    with_reducible rfl
  rotate_left
  · simp only [Act.put, List.setIfInBounds_toArray, List.set_cons_zero, List.set_cons_succ, i64_w, i32_w]
    rfl
  refine pure_ (i := 24) (N := some 41) (v := ?_) (a' := ?_) #[true, true, false, false, true, true, false, false, true, true, false, false, true, true, false, false, true, true, false, false, true, true, false, false, true, false, false, false, false, false, false, false, false, false, false, false, false, false, false, false, false, false, false, false, false, false, false, false, false, false, false, false, false, false, false, false, false, false, false, false, false, false, false, false, false, false, false, false, false, false, false] rfl rfl (any_of HT_.out (by kernel_rfl)) (fun _ _ _ h => h) (Or.inl ⟨by rfl, ?_⟩) ?_ ?_
  rotate_left
  · intro w'
    go_simp
    with_reducible rfl
  rotate_left
  · simp only [Act.put, List.setIfInBounds_toArray, List.set_cons_zero, List.set_cons_succ, i64_w, i32_w]
    rfl
  refine pure_ (i := 25) (N := some 42) (v := ?_) (a' := ?_) #[true, true, false, false, true, true, false, false, true, true, false, false, true, true, false, false, true, true, false, false, true, true, false, false, true, true, false, false, false, false, false, false, false, false, false, false, false, false, false, false, false, false, false, false, false, false, false, false, false, false, false, false, false, false, false, false, false, false, false, false, false, false, false, false, false, false, false, false, false, false, false] rfl rfl (any_of HT_.out (by kernel_rfl)) (fun _ _ _ h => h) (Or.inl ⟨by rfl, ?_⟩) ?_ ?_
  rotate_left
  · intro w'
    go_simp
    with_reducible rfl
  rotate_left
  · simp only [Act.put, List.setIfInBounds_toArray, List.set_cons_zero, List.set_cons_succ, i64_w, i32_w]
    rfl
  refine pure_ (i := 28) (N := some 45) (v := ?_) (a' := ?_) #[true, true, false, false, true, true, false, false, true, true, false, false, true, true, false, false, true, true, false, false, true, true, false, false, true, true, false, false, true, false, false, false, false, false, false, false, false, false, false, false, false, false, false, false, false, false, false, false, false, false, false, false, false, false, false, false, false, false, false, false, false, false, false, false, false, false, false, false, false, false, false] rfl rfl (any_of HT_.out (by kernel_rfl)) (fun _ _ _ h => h) (Or.inl ⟨by rfl, ?_⟩) ?_ ?_
  rotate_left
  · intro w'
    go_simp
    with_reducible rfl
  rotate_left
  · simp only [Act.put, List.setIfInBounds_toArray, List.set_cons_zero, List.set_cons_succ, i64_w, i32_w]
    rfl
  refine pure_ (i := 29) (N := some 46) (v := ?_) (a' := ?_) #[true, true, false, false, true, true, false, false, true, true, false, false, true, true, false, false, true, true, false, false, true, true, false, false, true, true, false, false, true, true, false, false, false, false, false, false, false, false, false, false, false, false, false, false, false, false, false, false, false, false, false, false, false, false, false, false, false, false, false, false, false, false, false, false, false, false, false, false, false, false, false] rfl rfl (any_of HT_.out (by kernel_rfl)) (fun _ _ _ h => h) (Or.inl ⟨by rfl, ?_⟩) ?_ ?_
  rotate_left
  · intro w'
    go_simp
    with_reducible rfl
  rotate_left
  · simp only [Act.put, List.setIfInBounds_toArray, List.set_cons_zero, List.set_cons_succ, i64_w, i32_w]
    rfl
  refine pure_ (i := 32) (N := some 49) (v := ?_) (a' := ?_) #[true, true, false, false, true, true, false, false, true, true, false, false, true, true, false, false, true, true, false, false, true, true, false, false, true, true, false, false, true, true, false, false, true, false, false, false, false, false, false, false, false, false, false, false, false, false, false, false, false, false, false, false, false, false, false, false, false, false, false, false, false, false, false, false, false, false, false, false, false, false, false] rfl rfl (any_of HT_.out (by kernel_rfl)) (fun _ _ _ h => h) (Or.inl ⟨by rfl, ?_⟩) ?_ ?_
  rotate_left
  · intro w'
    go_simp
    with_reducible rfl
  rotate_left
  · simp only [Act.put, List.setIfInBounds_toArray, List.set_cons_zero, List.set_cons_succ, i64_w, i32_w]
    rfl
  refine pure_ (i := 33) (N := some 50) (v := ?_) (a' := ?_) #[true, true, false, false, true, true, false, false, true, true, false, false, true, true, false, false, true, true, false, false, true, true, false, false, true, true, false, false, true, true, false, false, true, true, false, false, false, false, false, false, false, false, false, false, false, false, false, false, false, false, false, false, false, false, false, false, false, false, false, false, false, false, false, false, false, false, false, false, false, false, false] rfl rfl (any_of HT_.out (by kernel_rfl)) (fun _ _ _ h => h) (Or.inl ⟨by rfl, ?_⟩) ?_ ?_
  rotate_left
  · intro w'
    go_simp
    with_reducible rfl
  rotate_left
  · simp only [Act.put, List.setIfInBounds_toArray, List.set_cons_zero, List.set_cons_succ, i64_w, i32_w]
    rfl
  refine pure_ (i := 36) (N := some 53) (v := ?_) (a' := ?_) #[true, true, false, false, true, true, false, false, true, true, false, false, true, true, false, false, true, true, false, false, true, true, false, false, true, true, false, false, true, true, false, false, true, true, false, false, true, false, false, false, false, false, false, false, false, false, false, false, false, false, false, false, false, false, false, false, false, false, false, false, false, false, false, false, false, false, false, false, false, false, false] rfl rfl (any_of HT_.out (by kernel_rfl)) (fun _ _ _ h => h) (Or.inl ⟨by rfl, ?_⟩) ?_ ?_
  rotate_left
  · intro w'
    go_simp
    with_reducible rfl
  rotate_left
  · simp only [Act.put, List.setIfInBounds_toArray, List.set_cons_zero, List.set_cons_succ, i64_w, i32_w]
    rfl
  refine pure_ (i := 37) (N := some 54) (v := ?_) (a' := ?_) #[true, true, false, false, true, true, false, false, true, true, false, false, true, true, false, false, true, true, false, false, true, true, false, false, true, true, false, false, true, true, false, false, true, true, false, false, true, true, false, false, false, false, false, false, false, false, false, false, false, false, false, false, false, false, false, false, false, false, false, false, false, false, false, false, false, false, false, false, false, false, false] rfl rfl (any_of HT_.out (by kernel_rfl)) (fun _ _ _ h => h) (Or.inl ⟨by rfl, ?_⟩) ?_ ?_
  rotate_left
  · intro w'
    go_simp
    with_reducible rfl
  rotate_left
  · simp only [Act.put, List.setIfInBounds_toArray, List.set_cons_zero, List.set_cons_succ, i64_w, i32_w]
    rfl
  refine pure_ (i := 40) (N := some 57) (v := ?_) (a' := ?_) #[true, true, false, false, true, true, false, false, true, true, false, false, true, true, false, false, true, true, false, false, true, true, false, false, true, true, false, false, true, true, false, false, true, true, false, false, true, true, false, false, true, false, false, false, false, false, false, false, false, false, false, false, false, false, false, false, false, false, false, false, false, false, false, false, false, false, false, false, false, false, false] rfl rfl (any_of HT_.out (by kernel_rfl)) (fun _ _ _ h => h) (Or.inl ⟨by rfl, ?_⟩) ?_ ?_
  rotate_left
  · intro w'
    go_simp
    with_reducible rfl
  rotate_left
  · simp only [Act.put, List.setIfInBounds_toArray, List.set_cons_zero, List.set_cons_succ, i64_w, i32_w]
    rfl
  refine pure_ (i := 41) (N := some 58) (v := ?_) (a' := ?_) #[true, true, false, false, true, true, false, false, true, true, false, false, true, true, false, false, true, true, false, false, true, true, false, false, true, true, false, false, true, true, false, false, true, true, false, false, true, true, false, false, true, true, false, false, false, false, false, false, false, false, false, false, false, false, false, false, false, false, false, false, false, false, false, false, false, false, false, false, false, false, false] rfl rfl (any_of HT_.out (by kernel_rfl)) (fun _ _ _ h => h) (Or.inl ⟨by rfl, ?_⟩) ?_ ?_
  rotate_left
  · intro w'
    go_simp
    with_reducible rfl
  rotate_left
  · simp only [Act.put, List.setIfInBounds_toArray, List.set_cons_zero, List.set_cons_succ, i64_w, i32_w]
    rfl
  refine pure_ (i := 44) (N := some 61) (v := ?_) (a' := ?_) #[true, true, false, false, true, true, false, false, true, true, false, false, true, true, false, false, true, true, false, false, true, true, false, false, true, true, false, false, true, true, false, false, true, true, false, false, true, true, false, false, true, true, false, false, true, false, false, false, false, false, false, false, false, false, false, false, false, false, false, false, false, false, false, false, false, false, false, false, false, false, false] rfl rfl (any_of HT_.out (by kernel_rfl)) (fun _ _ _ h => h) (Or.inl ⟨by rfl, ?_⟩) ?_ ?_
  rotate_left
  · intro w'
    go_simp
    with_reducible rfl
  rotate_left
  · simp only [Act.put, List.setIfInBounds_toArray, List.set_cons_zero, List.set_cons_succ, i64_w, i32_w]
    rfl
  refine pure_ (i := 45) (N := some 62) (v := ?_) (a' := ?_) #[true, true, false, false, true, true, false, false, true, true, false, false, true, true, false, false, true, true, false, false, true, true, false, false, true, true, false, false, true, true, false, false, true, true, false, false, true, true, false, false, true, true, false, false, true, true, false, false, false, false, false, false, false, false, false, false, false, false, false, false, false, false, false, false, false, false, false, false, false, false, false] rfl rfl (any_of HT_.out (by kernel_rfl)) (fun _ _ _ h => h) (Or.inl ⟨by rfl, ?_⟩) ?_ ?_
  rotate_left
  · intro w'
    go_simp
    with_reducible rfl
  rotate_left
  · simp only [Act.put, List.setIfInBounds_toArray, List.set_cons_zero, List.set_cons_succ, i64_w, i32_w]
    rfl
  refine pure_ (i := 48) (N := some 65) (v := ?_) (a' := ?_) #[true, true, false, false, true, true, false, false, true, true, false, false, true, true, false, false, true, true, false, false, true, true, false, false, true, true, false, false, true, true, false, false, true, true, false, false, true, true, false, false, true, true, false, false, true, true, false, false, true, false, false, false, false, false, false, false, false, false, false, false, false, false, false, false, false, false, false, false, false, false, false] rfl rfl (any_of HT_.out (by kernel_rfl)) (fun _ _ _ h => h) (Or.inl ⟨by rfl, ?_⟩) ?_ ?_
  rotate_left
  · intro w'
    go_simp
    with_reducible rfl
  rotate_left
  · simp only [Act.put, List.setIfInBounds_toArray, List.set_cons_zero, List.set_cons_succ, i64_w, i32_w]
    rfl
  refine pure_ (i := 49) (N := some 66) (v := ?_) (a' := ?_) #[true, true, false, false, true, true, false, false, true, true, false, false, true, true, false, false, true, true, false, false, true, true, false, false, true, true, false, false, true, true, false, false, true, true, false, false, true, true, false, false, true, true, false, false, true, true, false, false, true, true, false, false, false, false, false, false, false, false, false, false, false, false, false, false, false, false, false, false, false, false, false] rfl rfl (any_of HT_.out (by kernel_rfl)) (fun _ _ _ h => h) (Or.inl ⟨by rfl, ?_⟩) ?_ ?_
  rotate_left
  · intro w'
    go_simp
    with_reducible rfl
  rotate_left
  · simp only [Act.put, List.setIfInBounds_toArray, List.set_cons_zero, List.set_cons_succ, i64_w, i32_w]
    rfl
  refine pure_ (i := 50) (N := some 67) (v := ?_) (a' := ?_) #[true, true, false, false, true, true, false, false, true, true, false, false, true, true, false, false, true, true, false, false, true, true, false, false, true, true, false, false, true, true, false, false, true, true, false, false, true, true, false, false, true, true, false, false, true, true, false, false, true, true, true, false, false, false, false, false, false, false, false, false, false, false, false, false, false, false, false, false, false, false, false] rfl rfl (any_of HT_.out (by kernel_rfl)) (fun _ _ _ h => h) (Or.inl ⟨by rfl, ?_⟩) ?_ ?_
  rotate_left
  · intro w'
    go_simp
    with_reducible rfl
  rotate_left
  · simp only [Act.put, List.setIfInBounds_toArray, List.set_cons_zero, List.set_cons_succ, i64_w, i32_w]
    rfl
  refine pure_ (i := 54) (N := some 71) (v := ?_) (a' := ?_) #[true, true, false, false, true, true, false, false, true, true, false, false, true, true, false, false, true, true, false, false, true, true, false, false, true, true, false, false, true, true, false, false, true, true, false, false, true, true, false, false, true, true, false, false, true, true, false, false, true, true, true, false, false, false, true, false, false, false, false, false, false, false, false, false, false, false, false, false, false, false, false] rfl rfl (any_of HT_.out (by kernel_rfl)) (fun _ _ _ h => h) (Or.inl ⟨by rfl, ?_⟩) ?_ ?_
  rotate_left
  · intro w'
    go_simp
    with_reducible rfl
  rotate_left
  · simp only [Act.put, List.setIfInBounds_toArray, List.set_cons_zero, List.set_cons_succ, i64_w, i32_w]
    rfl
  refine pure_ (i := 55) (N := some 72) (v := ?_) (a' := ?_) #[true, true, false, false, true, true, false, false, true, true, false, false, true, true, false, false, true, true, false, false, true, true, false, false, true, true, false, false, true, true, false, false, true, true, false, false, true, true, false, false, true, true, false, false, true, true, false, false, true, true, true, false, false, false, true, true, false, false, false, false, false, false, false, false, false, false, false, false, false, false, false] rfl rfl (any_of HT_.out (by kernel_rfl)) (fun _ _ _ h => h) (Or.inl ⟨by rfl, ?_⟩) ?_ ?_
  rotate_left
  · intro w'
    go_simp
    with_reducible rfl
  rotate_left
  · simp only [Act.put, List.setIfInBounds_toArray, List.set_cons_zero, List.set_cons_succ, i64_w, i32_w]
    rfl
  refine pure_ (i := 56) (N := some 73) (v := ?_) (a' := ?_) #[true, true, false, false, true, true, false, false, true, true, false, false, true, true, false, false, true, true, false, false, true, true, false, false, true, true, false, false, true, true, false, false, true, true, false, false, true, true, false, false, true, true, false, false, true, true, false, false, true, true, true, false, false, false, true, true, true, false, false, false, false, false, false, false, false, false, false, false, false, false, false] rfl rfl (any_of HT_.out (by kernel_rfl)) (fun _ _ _ h => h) (Or.inl ⟨by rfl, ?_⟩) ?_ ?_
  rotate_left
  · intro w'
    go_simp
    with_reducible rfl
  rotate_left
  · simp only [Act.put, List.setIfInBounds_toArray, List.set_cons_zero, List.set_cons_succ, i64_w, i32_w]
    rfl
  refine pure_ (i := 60) (N := some 77) (v := ?_) (a' := ?_) #[true, true, false, false, true, true, false, false, true, true, false, false, true, true, false, false, true, true, false, false, true, true, false, false, true, true, false, false, true, true, false, false, true, true, false, false, true, true, false, false, true, true, false, false, true, true, false, false, true, true, true, false, false, false, true, true, true, false, false, false, true, false, false, false, false, false, false, false, false, false, false] rfl rfl (any_of HT_.out (by kernel_rfl)) (fun _ _ _ h => h) (Or.inl ⟨by rfl, ?_⟩) ?_ ?_
  rotate_left
  · intro w'
    go_simp
    with_reducible rfl
  rotate_left
  · simp only [Act.put, List.setIfInBounds_toArray, List.set_cons_zero, List.set_cons_succ, i64_w, i32_w]
    rfl
  refine pure_ (i := 61) (N := some 78) (v := ?_) (a' := ?_) #[true, true, false, false, true, true, false, false, true, true, false, false, true, true, false, false, true, true, false, false, true, true, false, false, true, true, false, false, true, true, false, false, true, true, false, false, true, true, false, false, true, true, false, false, true, true, false, false, true, true, true, false, false, false, true, true, true, false, false, false, true, true, false, false, false, false, false, false, false, false, false] rfl rfl (any_of HT_.out (by kernel_rfl)) (fun _ _ _ h => h) (Or.inl ⟨by rfl, ?_⟩) ?_ ?_
  rotate_left
  · intro w'
    go_simp
    with_reducible rfl
  rotate_left
  · simp only [Act.put, List.setIfInBounds_toArray, List.set_cons_zero, List.set_cons_succ, i64_w, i32_w]
    rfl
  refine pure_ (i := 62) (N := some 79) (v := ?_) (a' := ?_) #[true, true, false, false, true, true, false, false, true, true, false, false, true, true, false, false, true, true, false, false, true, true, false, false, true, true, false, false, true, true, false, false, true, true, false, false, true, true, false, false, true, true, false, false, true, true, false, false, true, true, true, false, false, false, true, true, true, false, false, false, true, true, true, false, false, false, false, false, false, false, false] rfl rfl (any_of HT_.out (by kernel_rfl)) (fun _ _ _ h => h) (Or.inl ⟨by rfl, ?_⟩) ?_ ?_
  rotate_left
  · intro w'
    go_simp
    with_reducible rfl
  rotate_left
  · simp only [Act.put, List.setIfInBounds_toArray, List.set_cons_zero, List.set_cons_succ, i64_w, i32_w]
    rfl
  refine pure_ (i := 66) (N := some 83) (v := ?_) (a' := ?_) #[true, true, false, false, true, true, false, false, true, true, false, false, true, true, false, false, true, true, false, false, true, true, false, false, true, true, false, false, true, true, false, false, true, true, false, false, true, true, false, false, true, true, false, false, true, true, false, false, true, true, true, false, false, false, true, true, true, false, false, false, true, true, true, false, false, false, true, false, false, false, false] rfl rfl (any_of HT_.out (by kernel_rfl)) (fun _ _ _ h => h) (Or.inl ⟨by rfl, ?_⟩) ?_ ?_
  rotate_left
  · intro w'
    go_simp
    with_reducible rfl
  rotate_left
  · simp only [Act.put, List.setIfInBounds_toArray, List.set_cons_zero, List.set_cons_succ, i64_w, i32_w]
    rfl
  refine take_ (i := 51) (N := some 68) (v := ?_) (a' := ?_) #[true, true, false, false, true, true, false, false, true, true, false, false, true, true, false, false, true, true, false, false, true, true, false, false, true, true, false, false, true, true, false, false, true, true, false, false, true, true, false, false, true, true, false, false, true, true, false, false, true, true, true, true, false, false, true, true, true, false, false, false, true, true, true, false, false, false, true, false, false, false, false] rfl rfl (take_ofW HT_.out HW_.out (by kernel_rfl)) (fun _ _ _ h => h) (Or.inl ⟨by rfl, ?_⟩) hHeld ?_ ?_
  rotate_left
  · intro w' s0
    go_simp
    with_reducible rfl
  rotate_left
  · simp only [Act.put, List.setIfInBounds_toArray, List.set_cons_zero, List.set_cons_succ, i64_w, i32_w]
    rfl
  refine take_ (i := 57) (N := some 74) (v := ?_) (a' := ?_) #[true, true, false, false, true, true, false, false, true, true, false, false, true, true, false, false, true, true, false, false, true, true, false, false, true, true, false, false, true, true, false, false, true, true, false, false, true, true, false, false, true, true, false, false, true, true, false, false, true, true, true, true, false, false, true, true, true, true, false, false, true, true, true, false, false, false, true, false, false, false, false] rfl rfl (take_ofW HT_.out HW_.out (by kernel_rfl)) (fun _ _ _ h => h) (Or.inl ⟨by rfl, ?_⟩) hHeld ?_ ?_
  rotate_left
  · intro w' s0
    go_simp
    with_reducible rfl
  rotate_left
  · simp only [Act.put, List.setIfInBounds_toArray, List.set_cons_zero, List.set_cons_succ, i64_w, i32_w]
    rfl
  refine take_ (i := 63) (N := some 80) (v := ?_) (a' := ?_) #[true, true, false, false, true, true, false, false, true, true, false, false, true, true, false, false, true, true, false, false, true, true, false, false, true, true, false, false, true, true, false, false, true, true, false, false, true, true, false, false, true, true, false, false, true, true, false, false, true, true, true, true, false, false, true, true, true, true, false, false, true, true, true, true, false, false, true, false, false, false, false] rfl rfl (take_ofW HT_.out HW_.out (by kernel_rfl)) (fun _ _ _ h => h) (Or.inl ⟨by rfl, ?_⟩) hHeld ?_ ?_
  rotate_left
  · intro w' s0
    go_simp
    with_reducible rfl
  rotate_left
  · simp only [Act.put, List.setIfInBounds_toArray, List.set_cons_zero, List.set_cons_succ, i64_w, i32_w]
    rfl
  refine one_ (i := 2) (N := some 19) #[true, true, true, false, true, true, false, false, true, true, false, false, true, true, false, false, true, true, false, false, true, true, false, false, true, true, false, false, true, true, false, false, true, true, false, false, true, true, false, false, true, true, false, false, true, true, false, false, true, true, true, true, false, false, true, true, true, true, false, false, true, true, true, true, false, false, true, false, false, false, false] rfl rfl (one_of HT_.out (by kernel_rfl)) (by decide) (fun K hK => ?_)
  refine faultplan_rules.goesV Try.func30 (by kernel_rfl) rfl #[.int .i64 13] (.tmp 18) (by rfl) rfl rfl (by rfl) (by simp only [List.map_toArray, List.map_cons, List.map_nil]; rfl) ?_
  with_reducible refine (faultplan_rules.fail 13 _).mono ?_
  rintro e wn ⟨rfl, hb⟩
  refine ⟨_, rfl, ?_⟩
  have n0_ := Aside0.mk (below_step (by first | exact HB.out | exact below_drew1 HB.out) hb)
  have n1_ := Aside0.mk (blk_below (by first | exact BK.out | exact blk_drew BK.out) hb)
  have n2_ := Aside0.mk (blk_below (by first | exact BO.out | exact blk_drew BO.out) hb)
  have n3_ := Aside0.mk (blk_below (by first | exact BP.out | exact blk_drew BP.out) hb)
  have n4_ := Aside0.mk (blk_below (by first | exact BS.out | exact blk_drew BS.out) hb)
  clear HB BK BO BP BS hb
  have HB := n0_
  have BK := n1_
  have BO := n2_
  have BP := n3_
  have BS := n4_
  clear n0_ n1_ n2_ n3_ n4_
  refine hK.out _ _ (((blk_cell BK.out 16).trans rfl)) (fun hHeld => ?_)
  clear hK K
  refine norm_ (a' := ?_) ?_ ?_
  rotate_left
  · show Act.put _ (some 19) _ = _
    simp only [Act.put, List.setIfInBounds_toArray, List.set_cons_zero, List.set_cons_succ, i64_w, i32_w]
    rfl
  refine pure_ (i := 3) (N := some 20) (v := ?_) (a' := ?_) #[true, true, true, true, true, true, false, false, true, true, false, false, true, true, false, false, true, true, false, false, true, true, false, false, true, true, false, false, true, true, false, false, true, true, false, false, true, true, false, false, true, true, false, false, true, true, false, false, true, true, true, true, false, false, true, true, true, true, false, false, true, true, true, true, false, false, true, false, false, false, false] rfl rfl (any_of HT_.out (by kernel_rfl)) (fun _ _ _ h => h) (Or.inl ⟨by rfl, ?_⟩) ?_ ?_
  rotate_left
  · intro w'
    go_simp
    with_reducible rfl
  rotate_left
  · simp only [Act.put, List.setIfInBounds_toArray, List.set_cons_zero, List.set_cons_succ, i64_w, i32_w]
    rfl
  refine one_ (i := 6) (N := some 23) #[true, true, true, true, true, true, true, false, true, true, false, false, true, true, false, false, true, true, false, false, true, true, false, false, true, true, false, false, true, true, false, false, true, true, false, false, true, true, false, false, true, true, false, false, true, true, false, false, true, true, true, true, false, false, true, true, true, true, false, false, true, true, true, true, false, false, true, false, false, false, false] rfl rfl (one_of HT_.out (by kernel_rfl)) (by decide) (fun K hK => ?_)
  refine faultplan_rules.goesV Try.func30 (by kernel_rfl) rfl #[.int .i64 12] (.tmp 22) (by rfl) rfl rfl (by rfl) (by simp only [List.map_toArray, List.map_cons, List.map_nil]; rfl) ?_
  with_reducible refine (faultplan_rules.fail 12 _).mono ?_
  rintro e wn ⟨rfl, hb⟩
  refine ⟨_, rfl, ?_⟩
  have n0_ := Aside0.mk (below_step (by first | exact HB.out | exact below_drew1 HB.out) hb)
  have n1_ := Aside0.mk (blk_below (by first | exact BK.out | exact blk_drew BK.out) hb)
  have n2_ := Aside0.mk (blk_below (by first | exact BO.out | exact blk_drew BO.out) hb)
  have n3_ := Aside0.mk (blk_below (by first | exact BP.out | exact blk_drew BP.out) hb)
  have n4_ := Aside0.mk (blk_below (by first | exact BS.out | exact blk_drew BS.out) hb)
  clear HB BK BO BP BS hb
  have HB := n0_
  have BK := n1_
  have BO := n2_
  have BP := n3_
  have BS := n4_
  clear n0_ n1_ n2_ n3_ n4_
  refine hK.out _ _ (((blk_cell BK.out 16).trans rfl)) (fun hHeld => ?_)
  clear hK K
  refine norm_ (a' := ?_) ?_ ?_
  rotate_left
  · show Act.put _ (some 23) _ = _
    simp only [Act.put, List.setIfInBounds_toArray, List.set_cons_zero, List.set_cons_succ, i64_w, i32_w]
    rfl
  refine pure_ (i := 7) (N := some 24) (v := ?_) (a' := ?_) #[true, true, true, true, true, true, true, true, true, true, false, false, true, true, false, false, true, true, false, false, true, true, false, false, true, true, false, false, true, true, false, false, true, true, false, false, true, true, false, false, true, true, false, false, true, true, false, false, true, true, true, true, false, false, true, true, true, true, false, false, true, true, true, true, false, false, true, false, false, false, false] rfl rfl (any_of HT_.out (by kernel_rfl)) (fun _ _ _ h => h) (Or.inl ⟨by rfl, ?_⟩) ?_ ?_
  rotate_left
  · intro w'
    go_simp
    with_reducible rfl
  rotate_left
  · simp only [Act.put, List.setIfInBounds_toArray, List.set_cons_zero, List.set_cons_succ, i64_w, i32_w]
    rfl
  refine one_ (i := 10) (N := some 27) #[true, true, true, true, true, true, true, true, true, true, true, false, true, true, false, false, true, true, false, false, true, true, false, false, true, true, false, false, true, true, false, false, true, true, false, false, true, true, false, false, true, true, false, false, true, true, false, false, true, true, true, true, false, false, true, true, true, true, false, false, true, true, true, true, false, false, true, false, false, false, false] rfl rfl (one_of HT_.out (by kernel_rfl)) (by decide) (fun K hK => ?_)
  refine faultplan_rules.goesV Try.func30 (by kernel_rfl) rfl #[.int .i64 14] (.tmp 26) (by rfl) rfl rfl (by rfl) (by simp only [List.map_toArray, List.map_cons, List.map_nil]; rfl) ?_
  with_reducible refine (faultplan_rules.fail 14 _).mono ?_
  rintro e wn ⟨rfl, hb⟩
  refine ⟨_, rfl, ?_⟩
  have n0_ := Aside0.mk (below_step (by first | exact HB.out | exact below_drew1 HB.out) hb)
  have n1_ := Aside0.mk (blk_below (by first | exact BK.out | exact blk_drew BK.out) hb)
  have n2_ := Aside0.mk (blk_below (by first | exact BO.out | exact blk_drew BO.out) hb)
  have n3_ := Aside0.mk (blk_below (by first | exact BP.out | exact blk_drew BP.out) hb)
  have n4_ := Aside0.mk (blk_below (by first | exact BS.out | exact blk_drew BS.out) hb)
  clear HB BK BO BP BS hb
  have HB := n0_
  have BK := n1_
  have BO := n2_
  have BP := n3_
  have BS := n4_
  clear n0_ n1_ n2_ n3_ n4_
  refine hK.out _ _ (((blk_cell BK.out 16).trans rfl)) (fun hHeld => ?_)
  clear hK K
  refine norm_ (a' := ?_) ?_ ?_
  rotate_left
  · show Act.put _ (some 27) _ = _
    simp only [Act.put, List.setIfInBounds_toArray, List.set_cons_zero, List.set_cons_succ, i64_w, i32_w]
    rfl
  refine pure_ (i := 11) (N := some 28) (v := ?_) (a' := ?_) #[true, true, true, true, true, true, true, true, true, true, true, true, true, true, false, false, true, true, false, false, true, true, false, false, true, true, false, false, true, true, false, false, true, true, false, false, true, true, false, false, true, true, false, false, true, true, false, false, true, true, true, true, false, false, true, true, true, true, false, false, true, true, true, true, false, false, true, false, false, false, false] rfl rfl (any_of HT_.out (by kernel_rfl)) (fun _ _ _ h => h) (Or.inl ⟨by rfl, ?_⟩) ?_ ?_
  rotate_left
  · intro w'
    go_simp
    with_reducible rfl
  rotate_left
  · simp only [Act.put, List.setIfInBounds_toArray, List.set_cons_zero, List.set_cons_succ, i64_w, i32_w]
    rfl
  refine one_ (i := 14) (N := some 31) #[true, true, true, true, true, true, true, true, true, true, true, true, true, true, true, false, true, true, false, false, true, true, false, false, true, true, false, false, true, true, false, false, true, true, false, false, true, true, false, false, true, true, false, false, true, true, false, false, true, true, true, true, false, false, true, true, true, true, false, false, true, true, true, true, false, false, true, false, false, false, false] rfl rfl (one_of HT_.out (by kernel_rfl)) (by decide) (fun K hK => ?_)
  refine faultplan_rules.goesV Try.func31 (by kernel_rfl) rfl #[.int .i64 0, .int .i64 0, .int .i64 0] (.tmp 30) (by rfl) rfl rfl (by rfl) (by simp only [List.map_toArray, List.map_cons, List.map_nil]; rfl) ?_
  with_reducible refine (faultplan_rules.act 0 0 0 _).mono ?_
  rintro e wn ⟨rfl, hb⟩
  refine ⟨_, rfl, ?_⟩
  have n0_ := Aside0.mk (below_step (by first | exact HB.out | exact below_drew1 HB.out) hb)
  have n1_ := Aside0.mk (blk_below (by first | exact BK.out | exact blk_drew BK.out) hb)
  have n2_ := Aside0.mk (blk_below (by first | exact BO.out | exact blk_drew BO.out) hb)
  have n3_ := Aside0.mk (blk_below (by first | exact BP.out | exact blk_drew BP.out) hb)
  have n4_ := Aside0.mk (blk_below (by first | exact BS.out | exact blk_drew BS.out) hb)
  clear HB BK BO BP BS hb
  have HB := n0_
  have BK := n1_
  have BO := n2_
  have BP := n3_
  have BS := n4_
  clear n0_ n1_ n2_ n3_ n4_
  refine hK.out _ _ (((blk_cell BK.out 16).trans rfl)) (fun hHeld => ?_)
  clear hK K
  refine norm_ (a' := ?_) ?_ ?_
  rotate_left
  · show Act.put _ (some 31) _ = _
    simp only [Act.put, List.setIfInBounds_toArray, List.set_cons_zero, List.set_cons_succ, i64_w, i32_w]
    rfl
  refine pure_ (i := 15) (N := some 32) (v := ?_) (a' := ?_) #[true, true, true, true, true, true, true, true, true, true, true, true, true, true, true, true, true, true, false, false, true, true, false, false, true, true, false, false, true, true, false, false, true, true, false, false, true, true, false, false, true, true, false, false, true, true, false, false, true, true, true, true, false, false, true, true, true, true, false, false, true, true, true, true, false, false, true, false, false, false, false] rfl rfl (any_of HT_.out (by kernel_rfl)) (fun _ _ _ h => h) (Or.inl ⟨by rfl, ?_⟩) ?_ ?_
  rotate_left
  · intro w'
    go_simp
    with_reducible rfl
  rotate_left
  · simp only [Act.put, List.setIfInBounds_toArray, List.set_cons_zero, List.set_cons_succ, i64_w, i32_w]
    rfl
  refine one_ (i := 18) (N := some 35) #[true, true, true, true, true, true, true, true, true, true, true, true, true, true, true, true, true, true, true, false, true, true, false, false, true, true, false, false, true, true, false, false, true, true, false, false, true, true, false, false, true, true, false, false, true, true, false, false, true, true, true, true, false, false, true, true, true, true, false, false, true, true, true, true, false, false, true, false, false, false, false] rfl rfl (one_of HT_.out (by kernel_rfl)) (by decide) (fun K hK => ?_)
  refine faultplan_rules.goesV Try.func29 (by kernel_rfl) rfl #[.int .i64 4] (.tmp 34) (by rfl) rfl rfl (by rfl) (by simp only [List.map_toArray, List.map_cons, List.map_nil]; rfl) ?_
  with_reducible refine (faultplan_rules.wait 4 _).mono ?_
  rintro e wn ⟨rfl, hb⟩
  refine ⟨_, rfl, ?_⟩
  have n0_ := Aside0.mk (below_step (by first | exact HB.out | exact below_drew1 HB.out) hb)
  have n1_ := Aside0.mk (blk_below (by first | exact BK.out | exact blk_drew BK.out) hb)
  have n2_ := Aside0.mk (blk_below (by first | exact BO.out | exact blk_drew BO.out) hb)
  have n3_ := Aside0.mk (blk_below (by first | exact BP.out | exact blk_drew BP.out) hb)
  have n4_ := Aside0.mk (blk_below (by first | exact BS.out | exact blk_drew BS.out) hb)
  clear HB BK BO BP BS hb
  have HB := n0_
  have BK := n1_
  have BO := n2_
  have BP := n3_
  have BS := n4_
  clear n0_ n1_ n2_ n3_ n4_
  refine hK.out _ _ (((blk_cell BK.out 16).trans rfl)) (fun hHeld => ?_)
  clear hK K
  refine norm_ (a' := ?_) ?_ ?_
  rotate_left
  · show Act.put _ (some 35) _ = _
    simp only [Act.put, List.setIfInBounds_toArray, List.set_cons_zero, List.set_cons_succ, i64_w, i32_w]
    rfl
  refine pure_ (i := 19) (N := some 36) (v := ?_) (a' := ?_) #[true, true, true, true, true, true, true, true, true, true, true, true, true, true, true, true, true, true, true, true, true, true, false, false, true, true, false, false, true, true, false, false, true, true, false, false, true, true, false, false, true, true, false, false, true, true, false, false, true, true, true, true, false, false, true, true, true, true, false, false, true, true, true, true, false, false, true, false, false, false, false] rfl rfl (any_of HT_.out (by kernel_rfl)) (fun _ _ _ h => h) (Or.inl ⟨by rfl, ?_⟩) ?_ ?_
  rotate_left
  · intro w'
    go_simp
    with_reducible rfl
  rotate_left
  · simp only [Act.put, List.setIfInBounds_toArray, List.set_cons_zero, List.set_cons_succ, i64_w, i32_w]
    rfl
  refine one_ (i := 22) (N := some 39) #[true, true, true, true, true, true, true, true, true, true, true, true, true, true, true, true, true, true, true, true, true, true, true, false, true, true, false, false, true, true, false, false, true, true, false, false, true, true, false, false, true, true, false, false, true, true, false, false, true, true, true, true, false, false, true, true, true, true, false, false, true, true, true, true, false, false, true, false, false, false, false] rfl rfl (one_of HT_.out (by kernel_rfl)) (by decide) (fun K hK => ?_)
  refine faultplan_rules.goesV Try.func29 (by kernel_rfl) rfl #[.int .i64 3] (.tmp 38) (by rfl) rfl rfl (by rfl) (by simp only [List.map_toArray, List.map_cons, List.map_nil]; rfl) ?_
  with_reducible refine (faultplan_rules.wait 3 _).mono ?_
  rintro e wn ⟨rfl, hb⟩
  refine ⟨_, rfl, ?_⟩
  have n0_ := Aside0.mk (below_step (by first | exact HB.out | exact below_drew1 HB.out) hb)
  have n1_ := Aside0.mk (blk_below (by first | exact BK.out | exact blk_drew BK.out) hb)
  have n2_ := Aside0.mk (blk_below (by first | exact BO.out | exact blk_drew BO.out) hb)
  have n3_ := Aside0.mk (blk_below (by first | exact BP.out | exact blk_drew BP.out) hb)
  have n4_ := Aside0.mk (blk_below (by first | exact BS.out | exact blk_drew BS.out) hb)
  clear HB BK BO BP BS hb
  have HB := n0_
  have BK := n1_
  have BO := n2_
  have BP := n3_
  have BS := n4_
  clear n0_ n1_ n2_ n3_ n4_
  refine hK.out _ _ (((blk_cell BK.out 16).trans rfl)) (fun hHeld => ?_)
  clear hK K
  refine norm_ (a' := ?_) ?_ ?_
  rotate_left
  · show Act.put _ (some 39) _ = _
    simp only [Act.put, List.setIfInBounds_toArray, List.set_cons_zero, List.set_cons_succ, i64_w, i32_w]
    rfl
  refine pure_ (i := 23) (N := some 40) (v := ?_) (a' := ?_) #[true, true, true, true, true, true, true, true, true, true, true, true, true, true, true, true, true, true, true, true, true, true, true, true, true, true, false, false, true, true, false, false, true, true, false, false, true, true, false, false, true, true, false, false, true, true, false, false, true, true, true, true, false, false, true, true, true, true, false, false, true, true, true, true, false, false, true, false, false, false, false] rfl rfl (any_of HT_.out (by kernel_rfl)) (fun _ _ _ h => h) (Or.inl ⟨by rfl, ?_⟩) ?_ ?_
  rotate_left
  · intro w'
    go_simp
    with_reducible rfl
  rotate_left
  · simp only [Act.put, List.setIfInBounds_toArray, List.set_cons_zero, List.set_cons_succ, i64_w, i32_w]
    rfl
  refine one_ (i := 26) (N := some 43) #[true, true, true, true, true, true, true, true, true, true, true, true, true, true, true, true, true, true, true, true, true, true, true, true, true, true, true, false, true, true, false, false, true, true, false, false, true, true, false, false, true, true, false, false, true, true, false, false, true, true, true, true, false, false, true, true, true, true, false, false, true, true, true, true, false, false, true, false, false, false, false] rfl rfl (one_of HT_.out (by kernel_rfl)) (by decide) (fun K hK => ?_)
  refine faultplan_rules.goesV Try.func31 (by kernel_rfl) rfl #[.int .i64 8, .int .i64 0, .int .i64 0] (.tmp 42) (by rfl) rfl rfl (by rfl) (by simp only [List.map_toArray, List.map_cons, List.map_nil]; rfl) ?_
  with_reducible refine (faultplan_rules.act 8 0 0 _).mono ?_
  rintro e wn ⟨rfl, hb⟩
  refine ⟨_, rfl, ?_⟩
  have n0_ := Aside0.mk (below_step (by first | exact HB.out | exact below_drew1 HB.out) hb)
  have n1_ := Aside0.mk (blk_below (by first | exact BK.out | exact blk_drew BK.out) hb)
  have n2_ := Aside0.mk (blk_below (by first | exact BO.out | exact blk_drew BO.out) hb)
  have n3_ := Aside0.mk (blk_below (by first | exact BP.out | exact blk_drew BP.out) hb)
  have n4_ := Aside0.mk (blk_below (by first | exact BS.out | exact blk_drew BS.out) hb)
  clear HB BK BO BP BS hb
  have HB := n0_
  have BK := n1_
  have BO := n2_
  have BP := n3_
  have BS := n4_
  clear n0_ n1_ n2_ n3_ n4_
  refine hK.out _ _ (((blk_cell BK.out 16).trans rfl)) (fun hHeld => ?_)
  clear hK K
  refine norm_ (a' := ?_) ?_ ?_
  rotate_left
  · show Act.put _ (some 43) _ = _
    simp only [Act.put, List.setIfInBounds_toArray, List.set_cons_zero, List.set_cons_succ, i64_w, i32_w]
    rfl
  refine pure_ (i := 27) (N := some 44) (v := ?_) (a' := ?_) #[true, true, true, true, true, true, true, true, true, true, true, true, true, true, true, true, true, true, true, true, true, true, true, true, true, true, true, true, true, true, false, false, true, true, false, false, true, true, false, false, true, true, false, false, true, true, false, false, true, true, true, true, false, false, true, true, true, true, false, false, true, true, true, true, false, false, true, false, false, false, false] rfl rfl (any_of HT_.out (by kernel_rfl)) (fun _ _ _ h => h) (Or.inl ⟨by rfl, ?_⟩) ?_ ?_
  rotate_left
  · intro w'
    go_simp
    with_reducible rfl
  rotate_left
  · simp only [Act.put, List.setIfInBounds_toArray, List.set_cons_zero, List.set_cons_succ, i64_w, i32_w]
    rfl
  refine one_ (i := 30) (N := some 47) #[true, true, true, true, true, true, true, true, true, true, true, true, true, true, true, true, true, true, true, true, true, true, true, true, true, true, true, true, true, true, true, false, true, true, false, false, true, true, false, false, true, true, false, false, true, true, false, false, true, true, true, true, false, false, true, true, true, true, false, false, true, true, true, true, false, false, true, false, false, false, false] rfl rfl (one_of HT_.out (by kernel_rfl)) (by decide) (fun K hK => ?_)
  refine faultplan_rules.goesV Try.func31 (by kernel_rfl) rfl #[.int .i64 9, .int .i64 0, .int .i64 1] (.tmp 46) (by rfl) rfl rfl (by rfl) (by simp only [List.map_toArray, List.map_cons, List.map_nil]; rfl) ?_
  with_reducible refine (faultplan_rules.act 9 0 1 _).mono ?_
  rintro e wn ⟨rfl, hb⟩
  refine ⟨_, rfl, ?_⟩
  have n0_ := Aside0.mk (below_step (by first | exact HB.out | exact below_drew1 HB.out) hb)
  have n1_ := Aside0.mk (blk_below (by first | exact BK.out | exact blk_drew BK.out) hb)
  have n2_ := Aside0.mk (blk_below (by first | exact BO.out | exact blk_drew BO.out) hb)
  have n3_ := Aside0.mk (blk_below (by first | exact BP.out | exact blk_drew BP.out) hb)
  have n4_ := Aside0.mk (blk_below (by first | exact BS.out | exact blk_drew BS.out) hb)
  clear HB BK BO BP BS hb
  have HB := n0_
  have BK := n1_
  have BO := n2_
  have BP := n3_
  have BS := n4_
  clear n0_ n1_ n2_ n3_ n4_
  refine hK.out _ _ (((blk_cell BK.out 16).trans rfl)) (fun hHeld => ?_)
  clear hK K
  refine norm_ (a' := ?_) ?_ ?_
  rotate_left
  · show Act.put _ (some 47) _ = _
    simp only [Act.put, List.setIfInBounds_toArray, List.set_cons_zero, List.set_cons_succ, i64_w, i32_w]
    rfl
  refine pure_ (i := 31) (N := some 48) (v := ?_) (a' := ?_) #[true, true, true, true, true, true, true, true, true, true, true, true, true, true, true, true, true, true, true, true, true, true, true, true, true, true, true, true, true, true, true, true, true, true, false, false, true, true, false, false, true, true, false, false, true, true, false, false, true, true, true, true, false, false, true, true, true, true, false, false, true, true, true, true, false, false, true, false, false, false, false] rfl rfl (any_of HT_.out (by kernel_rfl)) (fun _ _ _ h => h) (Or.inl ⟨by rfl, ?_⟩) ?_ ?_
  rotate_left
  · intro w'
    go_simp
    with_reducible rfl
  rotate_left
  · simp only [Act.put, List.setIfInBounds_toArray, List.set_cons_zero, List.set_cons_succ, i64_w, i32_w]
    rfl
  refine one_ (i := 34) (N := some 51) #[true, true, true, true, true, true, true, true, true, true, true, true, true, true, true, true, true, true, true, true, true, true, true, true, true, true, true, true, true, true, true, true, true, true, true, false, true, true, false, false, true, true, false, false, true, true, false, false, true, true, true, true, false, false, true, true, true, true, false, false, true, true, true, true, false, false, true, false, false, false, false] rfl rfl (one_of HT_.out (by kernel_rfl)) (by decide) (fun K hK => ?_)
  refine faultplan_rules.goesV Try.func29 (by kernel_rfl) rfl #[.int .i64 5] (.tmp 50) (by rfl) rfl rfl (by rfl) (by simp only [List.map_toArray, List.map_cons, List.map_nil]; rfl) ?_
  with_reducible refine (faultplan_rules.wait 5 _).mono ?_
  rintro e wn ⟨rfl, hb⟩
  refine ⟨_, rfl, ?_⟩
  have n0_ := Aside0.mk (below_step (by first | exact HB.out | exact below_drew1 HB.out) hb)
  have n1_ := Aside0.mk (blk_below (by first | exact BK.out | exact blk_drew BK.out) hb)
  have n2_ := Aside0.mk (blk_below (by first | exact BO.out | exact blk_drew BO.out) hb)
  have n3_ := Aside0.mk (blk_below (by first | exact BP.out | exact blk_drew BP.out) hb)
  have n4_ := Aside0.mk (blk_below (by first | exact BS.out | exact blk_drew BS.out) hb)
  clear HB BK BO BP BS hb
  have HB := n0_
  have BK := n1_
  have BO := n2_
  have BP := n3_
  have BS := n4_
  clear n0_ n1_ n2_ n3_ n4_
  refine hK.out _ _ (((blk_cell BK.out 16).trans rfl)) (fun hHeld => ?_)
  clear hK K
  refine norm_ (a' := ?_) ?_ ?_
  rotate_left
  · show Act.put _ (some 51) _ = _
    simp only [Act.put, List.setIfInBounds_toArray, List.set_cons_zero, List.set_cons_succ, i64_w, i32_w]
    rfl
  refine pure_ (i := 35) (N := some 52) (v := ?_) (a' := ?_) #[true, true, true, true, true, true, true, true, true, true, true, true, true, true, true, true, true, true, true, true, true, true, true, true, true, true, true, true, true, true, true, true, true, true, true, true, true, true, false, false, true, true, false, false, true, true, false, false, true, true, true, true, false, false, true, true, true, true, false, false, true, true, true, true, false, false, true, false, false, false, false] rfl rfl (any_of HT_.out (by kernel_rfl)) (fun _ _ _ h => h) (Or.inl ⟨by rfl, ?_⟩) ?_ ?_
  rotate_left
  · intro w'
    go_simp
    with_reducible rfl
  rotate_left
  · simp only [Act.put, List.setIfInBounds_toArray, List.set_cons_zero, List.set_cons_succ, i64_w, i32_w]
    rfl
  refine one_ (i := 38) (N := some 55) #[true, true, true, true, true, true, true, true, true, true, true, true, true, true, true, true, true, true, true, true, true, true, true, true, true, true, true, true, true, true, true, true, true, true, true, true, true, true, true, false, true, true, false, false, true, true, false, false, true, true, true, true, false, false, true, true, true, true, false, false, true, true, true, true, false, false, true, false, false, false, false] rfl rfl (one_of HT_.out (by kernel_rfl)) (by decide) (fun K hK => ?_)
  refine faultplan_rules.goesV Try.func31 (by kernel_rfl) rfl #[.int .i64 7, .int .i64 0, .int .i64 0] (.tmp 54) (by rfl) rfl rfl (by rfl) (by simp only [List.map_toArray, List.map_cons, List.map_nil]; rfl) ?_
  with_reducible refine (faultplan_rules.act 7 0 0 _).mono ?_
  rintro e wn ⟨rfl, hb⟩
  refine ⟨_, rfl, ?_⟩
  have n0_ := Aside0.mk (below_step (by first | exact HB.out | exact below_drew1 HB.out) hb)
  have n1_ := Aside0.mk (blk_below (by first | exact BK.out | exact blk_drew BK.out) hb)
  have n2_ := Aside0.mk (blk_below (by first | exact BO.out | exact blk_drew BO.out) hb)
  have n3_ := Aside0.mk (blk_below (by first | exact BP.out | exact blk_drew BP.out) hb)
  have n4_ := Aside0.mk (blk_below (by first | exact BS.out | exact blk_drew BS.out) hb)
  clear HB BK BO BP BS hb
  have HB := n0_
  have BK := n1_
  have BO := n2_
  have BP := n3_
  have BS := n4_
  clear n0_ n1_ n2_ n3_ n4_
  refine hK.out _ _ (((blk_cell BK.out 16).trans rfl)) (fun hHeld => ?_)
  clear hK K
  refine norm_ (a' := ?_) ?_ ?_
  rotate_left
  · show Act.put _ (some 55) _ = _
    simp only [Act.put, List.setIfInBounds_toArray, List.set_cons_zero, List.set_cons_succ, i64_w, i32_w]
    rfl
  refine pure_ (i := 39) (N := some 56) (v := ?_) (a' := ?_) #[true, true, true, true, true, true, true, true, true, true, true, true, true, true, true, true, true, true, true, true, true, true, true, true, true, true, true, true, true, true, true, true, true, true, true, true, true, true, true, true, true, true, false, false, true, true, false, false, true, true, true, true, false, false, true, true, true, true, false, false, true, true, true, true, false, false, true, false, false, false, false] rfl rfl (any_of HT_.out (by kernel_rfl)) (fun _ _ _ h => h) (Or.inl ⟨by rfl, ?_⟩) ?_ ?_
  rotate_left
  · intro w'
    go_simp
    with_reducible rfl
  rotate_left
  · simp only [Act.put, List.setIfInBounds_toArray, List.set_cons_zero, List.set_cons_succ, i64_w, i32_w]
    rfl
  refine one_ (i := 42) (N := some 59) #[true, true, true, true, true, true, true, true, true, true, true, true, true, true, true, true, true, true, true, true, true, true, true, true, true, true, true, true, true, true, true, true, true, true, true, true, true, true, true, true, true, true, true, false, true, true, false, false, true, true, true, true, false, false, true, true, true, true, false, false, true, true, true, true, false, false, true, false, false, false, false] rfl rfl (one_of HT_.out (by kernel_rfl)) (by decide) (fun K hK => ?_)
  refine faultplan_rules.goesV Try.func31 (by kernel_rfl) rfl #[.int .i64 10, .int .i64 0, .int .i64 0] (.tmp 58) (by rfl) rfl rfl (by rfl) (by simp only [List.map_toArray, List.map_cons, List.map_nil]; rfl) ?_
  with_reducible refine (faultplan_rules.act 10 0 0 _).mono ?_
  rintro e wn ⟨rfl, hb⟩
  refine ⟨_, rfl, ?_⟩
  have n0_ := Aside0.mk (below_step (by first | exact HB.out | exact below_drew1 HB.out) hb)
  have n1_ := Aside0.mk (blk_below (by first | exact BK.out | exact blk_drew BK.out) hb)
  have n2_ := Aside0.mk (blk_below (by first | exact BO.out | exact blk_drew BO.out) hb)
  have n3_ := Aside0.mk (blk_below (by first | exact BP.out | exact blk_drew BP.out) hb)
  have n4_ := Aside0.mk (blk_below (by first | exact BS.out | exact blk_drew BS.out) hb)
  clear HB BK BO BP BS hb
  have HB := n0_
  have BK := n1_
  have BO := n2_
  have BP := n3_
  have BS := n4_
  clear n0_ n1_ n2_ n3_ n4_
  refine hK.out _ _ (((blk_cell BK.out 16).trans rfl)) (fun hHeld => ?_)
  clear hK K
  refine norm_ (a' := ?_) ?_ ?_
  rotate_left
  · show Act.put _ (some 59) _ = _
    simp only [Act.put, List.setIfInBounds_toArray, List.set_cons_zero, List.set_cons_succ, i64_w, i32_w]
    rfl
  refine pure_ (i := 43) (N := some 60) (v := ?_) (a' := ?_) #[true, true, true, true, true, true, true, true, true, true, true, true, true, true, true, true, true, true, true, true, true, true, true, true, true, true, true, true, true, true, true, true, true, true, true, true, true, true, true, true, true, true, true, true, true, true, false, false, true, true, true, true, false, false, true, true, true, true, false, false, true, true, true, true, false, false, true, false, false, false, false] rfl rfl (any_of HT_.out (by kernel_rfl)) (fun _ _ _ h => h) (Or.inl ⟨by rfl, ?_⟩) ?_ ?_
  rotate_left
  · intro w'
    go_simp
    with_reducible rfl
  rotate_left
  · simp only [Act.put, List.setIfInBounds_toArray, List.set_cons_zero, List.set_cons_succ, i64_w, i32_w]
    rfl
  refine one_ (i := 46) (N := some 63) #[true, true, true, true, true, true, true, true, true, true, true, true, true, true, true, true, true, true, true, true, true, true, true, true, true, true, true, true, true, true, true, true, true, true, true, true, true, true, true, true, true, true, true, true, true, true, true, false, true, true, true, true, false, false, true, true, true, true, false, false, true, true, true, true, false, false, true, false, false, false, false] rfl rfl (one_of HT_.out (by kernel_rfl)) (by decide) (fun K hK => ?_)
  refine faultplan_rules.goesV Try.func31 (by kernel_rfl) rfl #[.int .i64 11, .int .i64 0, .int .i64 1] (.tmp 62) (by rfl) rfl rfl (by rfl) (by simp only [List.map_toArray, List.map_cons, List.map_nil]; rfl) ?_
  with_reducible refine (faultplan_rules.act 11 0 1 _).mono ?_
  rintro e wn ⟨rfl, hb⟩
  refine ⟨_, rfl, ?_⟩
  have n0_ := Aside0.mk (below_step (by first | exact HB.out | exact below_drew1 HB.out) hb)
  have n1_ := Aside0.mk (blk_below (by first | exact BK.out | exact blk_drew BK.out) hb)
  have n2_ := Aside0.mk (blk_below (by first | exact BO.out | exact blk_drew BO.out) hb)
  have n3_ := Aside0.mk (blk_below (by first | exact BP.out | exact blk_drew BP.out) hb)
  have n4_ := Aside0.mk (blk_below (by first | exact BS.out | exact blk_drew BS.out) hb)
  clear HB BK BO BP BS hb
  have HB := n0_
  have BK := n1_
  have BO := n2_
  have BP := n3_
  have BS := n4_
  clear n0_ n1_ n2_ n3_ n4_
  refine hK.out _ _ (((blk_cell BK.out 16).trans rfl)) (fun hHeld => ?_)
  clear hK K
  refine norm_ (a' := ?_) ?_ ?_
  rotate_left
  · show Act.put _ (some 63) _ = _
    simp only [Act.put, List.setIfInBounds_toArray, List.set_cons_zero, List.set_cons_succ, i64_w, i32_w]
    rfl
  refine pure_ (i := 47) (N := some 64) (v := ?_) (a' := ?_) #[true, true, true, true, true, true, true, true, true, true, true, true, true, true, true, true, true, true, true, true, true, true, true, true, true, true, true, true, true, true, true, true, true, true, true, true, true, true, true, true, true, true, true, true, true, true, true, true, true, true, true, true, false, false, true, true, true, true, false, false, true, true, true, true, false, false, true, false, false, false, false] rfl rfl (any_of HT_.out (by kernel_rfl)) (fun _ _ _ h => h) (Or.inl ⟨by rfl, ?_⟩) ?_ ?_
  rotate_left
  · intro w'
    go_simp
    with_reducible rfl
  rotate_left
  · simp only [Act.put, List.setIfInBounds_toArray, List.set_cons_zero, List.set_cons_succ, i64_w, i32_w]
    rfl
  refine one_ (i := 52) (N := some 69) #[true, true, true, true, true, true, true, true, true, true, true, true, true, true, true, true, true, true, true, true, true, true, true, true, true, true, true, true, true, true, true, true, true, true, true, true, true, true, true, true, true, true, true, true, true, true, true, true, true, true, true, true, true, false, true, true, true, true, false, false, true, true, true, true, false, false, true, false, false, false, false] rfl rfl (one_of HT_.out (by kernel_rfl)) (by decide) (fun K hK => ?_)
  refine faultplan_rules.goesV Try.func31 (by kernel_rfl) rfl #[.int .i64 3, .int .i64 a0_16, .int .i64 1] (.tmp 66) (by rfl) rfl rfl (by rfl) (by simp only [List.map_toArray, List.map_cons, List.map_nil]; rfl) ?_
  with_reducible refine (faultplan_rules.act 3 a0_16 1 _).mono ?_
  rintro e wn ⟨rfl, hb⟩
  refine ⟨_, rfl, ?_⟩
  have n0_ := Aside0.mk (below_step (by first | exact HB.out | exact below_drew1 HB.out) hb)
  have n1_ := Aside0.mk (blk_below (by first | exact BK.out | exact blk_drew BK.out) hb)
  have n2_ := Aside0.mk (blk_below (by first | exact BO.out | exact blk_drew BO.out) hb)
  have n3_ := Aside0.mk (blk_below (by first | exact BP.out | exact blk_drew BP.out) hb)
  have n4_ := Aside0.mk (blk_below (by first | exact BS.out | exact blk_drew BS.out) hb)
  clear HB BK BO BP BS hb
  have HB := n0_
  have BK := n1_
  have BO := n2_
  have BP := n3_
  have BS := n4_
  clear n0_ n1_ n2_ n3_ n4_
  refine hK.out _ _ (((blk_cell BK.out 16).trans rfl)) (fun hHeld => ?_)
  clear hK K
  refine norm_ (a' := ?_) ?_ ?_
  rotate_left
  · show Act.put _ (some 69) _ = _
    simp only [Act.put, List.setIfInBounds_toArray, List.set_cons_zero, List.set_cons_succ, i64_w, i32_w]
    rfl
  refine pure_ (i := 53) (N := some 70) (v := ?_) (a' := ?_) #[true, true, true, true, true, true, true, true, true, true, true, true, true, true, true, true, true, true, true, true, true, true, true, true, true, true, true, true, true, true, true, true, true, true, true, true, true, true, true, true, true, true, true, true, true, true, true, true, true, true, true, true, true, true, true, true, true, true, false, false, true, true, true, true, false, false, true, false, false, false, false] rfl rfl (any_of HT_.out (by kernel_rfl)) (fun _ _ _ h => h) (Or.inl ⟨by rfl, ?_⟩) ?_ ?_
  rotate_left
  · intro w'
    go_simp
    with_reducible rfl
  rotate_left
  · simp only [Act.put, List.setIfInBounds_toArray, List.set_cons_zero, List.set_cons_succ, i64_w, i32_w]
    rfl
  refine one_ (i := 58) (N := some 75) #[true, true, true, true, true, true, true, true, true, true, true, true, true, true, true, true, true, true, true, true, true, true, true, true, true, true, true, true, true, true, true, true, true, true, true, true, true, true, true, true, true, true, true, true, true, true, true, true, true, true, true, true, true, true, true, true, true, true, true, false, true, true, true, true, false, false, true, false, false, false, false] rfl rfl (one_of HT_.out (by kernel_rfl)) (by decide) (fun K hK => ?_)
  refine faultplan_rules.goesV Try.func31 (by kernel_rfl) rfl #[.int .i64 6, .int .i64 a0_16, .int .i64 0] (.tmp 72) (by rfl) rfl rfl (by rfl) (by simp only [List.map_toArray, List.map_cons, List.map_nil]; rfl) ?_
  with_reducible refine (faultplan_rules.act 6 a0_16 0 _).mono ?_
  rintro e wn ⟨rfl, hb⟩
  refine ⟨_, rfl, ?_⟩
  have n0_ := Aside0.mk (below_step (by first | exact HB.out | exact below_drew1 HB.out) hb)
  have n1_ := Aside0.mk (blk_below (by first | exact BK.out | exact blk_drew BK.out) hb)
  have n2_ := Aside0.mk (blk_below (by first | exact BO.out | exact blk_drew BO.out) hb)
  have n3_ := Aside0.mk (blk_below (by first | exact BP.out | exact blk_drew BP.out) hb)
  have n4_ := Aside0.mk (blk_below (by first | exact BS.out | exact blk_drew BS.out) hb)
  clear HB BK BO BP BS hb
  have HB := n0_
  have BK := n1_
  have BO := n2_
  have BP := n3_
  have BS := n4_
  clear n0_ n1_ n2_ n3_ n4_
  refine hK.out _ _ (((blk_cell BK.out 16).trans rfl)) (fun hHeld => ?_)
  clear hK K
  refine norm_ (a' := ?_) ?_ ?_
  rotate_left
  · show Act.put _ (some 75) _ = _
    simp only [Act.put, List.setIfInBounds_toArray, List.set_cons_zero, List.set_cons_succ, i64_w, i32_w]
    rfl
  refine pure_ (i := 59) (N := some 76) (v := ?_) (a' := ?_) #[true, true, true, true, true, true, true, true, true, true, true, true, true, true, true, true, true, true, true, true, true, true, true, true, true, true, true, true, true, true, true, true, true, true, true, true, true, true, true, true, true, true, true, true, true, true, true, true, true, true, true, true, true, true, true, true, true, true, true, true, true, true, true, true, false, false, true, false, false, false, false] rfl rfl (any_of HT_.out (by kernel_rfl)) (fun _ _ _ h => h) (Or.inl ⟨by rfl, ?_⟩) ?_ ?_
  rotate_left
  · intro w'
    go_simp
    with_reducible rfl
  rotate_left
  · simp only [Act.put, List.setIfInBounds_toArray, List.set_cons_zero, List.set_cons_succ, i64_w, i32_w]
    rfl
  refine one_ (i := 64) (N := some 81) #[true, true, true, true, true, true, true, true, true, true, true, true, true, true, true, true, true, true, true, true, true, true, true, true, true, true, true, true, true, true, true, true, true, true, true, true, true, true, true, true, true, true, true, true, true, true, true, true, true, true, true, true, true, true, true, true, true, true, true, true, true, true, true, true, true, false, true, false, false, false, false] rfl rfl (one_of HT_.out (by kernel_rfl)) (by decide) (fun K hK => ?_)
  refine faultplan_rules.goesV Try.func31 (by kernel_rfl) rfl #[.int .i64 4, .int .i64 a0_16, .int .i64 1] (.tmp 78) (by rfl) rfl rfl (by rfl) (by simp only [List.map_toArray, List.map_cons, List.map_nil]; rfl) ?_
  with_reducible refine (faultplan_rules.act 4 a0_16 1 _).mono ?_
  rintro e wn ⟨rfl, hb⟩
  refine ⟨_, rfl, ?_⟩
  have n0_ := Aside0.mk (below_step (by first | exact HB.out | exact below_drew1 HB.out) hb)
  have n1_ := Aside0.mk (blk_below (by first | exact BK.out | exact blk_drew BK.out) hb)
  have n2_ := Aside0.mk (blk_below (by first | exact BO.out | exact blk_drew BO.out) hb)
  have n3_ := Aside0.mk (blk_below (by first | exact BP.out | exact blk_drew BP.out) hb)
  have n4_ := Aside0.mk (blk_below (by first | exact BS.out | exact blk_drew BS.out) hb)
  clear HB BK BO BP BS hb
  have HB := n0_
  have BK := n1_
  have BO := n2_
  have BP := n3_
  have BS := n4_
  clear n0_ n1_ n2_ n3_ n4_
  refine hK.out _ _ (((blk_cell BK.out 16).trans rfl)) (fun hHeld => ?_)
  clear hK K
  refine norm_ (a' := ?_) ?_ ?_
  rotate_left
  · show Act.put _ (some 81) _ = _
    simp only [Act.put, List.setIfInBounds_toArray, List.set_cons_zero, List.set_cons_succ, i64_w, i32_w]
    rfl
  refine pure_ (i := 65) (N := some 82) (v := ?_) (a' := ?_) #[true, true, true, true, true, true, true, true, true, true, true, true, true, true, true, true, true, true, true, true, true, true, true, true, true, true, true, true, true, true, true, true, true, true, true, true, true, true, true, true, true, true, true, true, true, true, true, true, true, true, true, true, true, true, true, true, true, true, true, true, true, true, true, true, true, true, true, false, false, false, false] rfl rfl (any_of HT_.out (by kernel_rfl)) (fun _ _ _ h => h) (Or.inl ⟨by rfl, ?_⟩) ?_ ?_
  rotate_left
  · intro w'
    go_simp
    with_reducible rfl
  rotate_left
  · simp only [Act.put, List.setIfInBounds_toArray, List.set_cons_zero, List.set_cons_succ, i64_w, i32_w]
    rfl
  refine one_ (i := 67) (N := some 84) #[true, true, true, true, true, true, true, true, true, true, true, true, true, true, true, true, true, true, true, true, true, true, true, true, true, true, true, true, true, true, true, true, true, true, true, true, true, true, true, true, true, true, true, true, true, true, true, true, true, true, true, true, true, true, true, true, true, true, true, true, true, true, true, true, true, true, true, true, false, false, false] rfl rfl (one_of HT_.out (by kernel_rfl)) (by decide) (fun K hK => ?_)
  refine faultplan_rules.goesV Try.func31 (by kernel_rfl) rfl #[.int .i64 5, .int .i64 0, .int .i64 1] (.tmp 83) (by rfl) rfl rfl (by rfl) (by simp only [List.map_toArray, List.map_cons, List.map_nil]; rfl) ?_
  with_reducible refine (faultplan_rules.act 5 0 1 _).mono ?_
  rintro e wn ⟨rfl, hb⟩
  refine ⟨_, rfl, ?_⟩
  have n0_ := Aside0.mk (below_step (by first | exact HB.out | exact below_drew1 HB.out) hb)
  have n1_ := Aside0.mk (blk_below (by first | exact BK.out | exact blk_drew BK.out) hb)
  have n2_ := Aside0.mk (blk_below (by first | exact BO.out | exact blk_drew BO.out) hb)
  have n3_ := Aside0.mk (blk_below (by first | exact BP.out | exact blk_drew BP.out) hb)
  have n4_ := Aside0.mk (blk_below (by first | exact BS.out | exact blk_drew BS.out) hb)
  clear HB BK BO BP BS hb
  have HB := n0_
  have BK := n1_
  have BO := n2_
  have BP := n3_
  have BS := n4_
  clear n0_ n1_ n2_ n3_ n4_
  refine hK.out _ _ (((blk_cell BK.out 16).trans rfl)) (fun hHeld => ?_)
  clear hK K
  refine norm_ (a' := ?_) ?_ ?_
  rotate_left
  · show Act.put _ (some 84) _ = _
    simp only [Act.put, List.setIfInBounds_toArray, List.set_cons_zero, List.set_cons_succ, i64_w, i32_w]
    rfl
  refine pure_ (i := 68) (N := some 85) (v := ?_) (a' := ?_) #[true, true, true, true, true, true, true, true, true, true, true, true, true, true, true, true, true, true, true, true, true, true, true, true, true, true, true, true, true, true, true, true, true, true, true, true, true, true, true, true, true, true, true, true, true, true, true, true, true, true, true, true, true, true, true, true, true, true, true, true, true, true, true, true, true, true, true, true, true, false, false] rfl rfl (any_of HT_.out (by kernel_rfl)) (fun _ _ _ h => h) (Or.inl ⟨by rfl, ?_⟩) ?_ ?_
  rotate_left
  · intro w'
    go_simp
    with_reducible rfl
  rotate_left
  · simp only [Act.put, List.setIfInBounds_toArray, List.set_cons_zero, List.set_cons_succ, i64_w, i32_w]
    rfl
  refine one_ (i := 69) (N := some 86) #[true, true, true, true, true, true, true, true, true, true, true, true, true, true, true, true, true, true, true, true, true, true, true, true, true, true, true, true, true, true, true, true, true, true, true, true, true, true, true, true, true, true, true, true, true, true, true, true, true, true, true, true, true, true, true, true, true, true, true, true, true, true, true, true, true, true, true, true, true, true, false] rfl rfl (one_of HT_.out (by kernel_rfl)) (by decide) (fun K hK => ?_)
  refine value_ (w1 := ?_) (v := ?_) (by rfl) rfl ?_ ?_
  rotate_left 2
  · go_simp
    constructor
    · rfl
    · rfl
  refine hK.out _ _ (((blk_cell (blk_alloc BK.out _) 16).trans rfl)) (fun hHeld => ?_)
  clear hK K
  refine norm_ (a' := ?_) ?_ ?_
  rotate_left
  · show Act.put _ (some 86) _ = _
    simp only [Act.put, List.setIfInBounds_toArray, List.set_cons_zero, List.set_cons_succ, i64_w, i32_w]
    rfl
  refine pure_ (i := 70) (N := some 2) (v := ?_) (a' := ?_) #[true, true, true, true, true, true, true, true, true, true, true, true, true, true, true, true, true, true, true, true, true, true, true, true, true, true, true, true, true, true, true, true, true, true, true, true, true, true, true, true, true, true, true, true, true, true, true, true, true, true, true, true, true, true, true, true, true, true, true, true, true, true, true, true, true, true, true, true, true, true, true] rfl rfl (any_of HT_.out (by kernel_rfl)) (fun _ _ _ h => h) (Or.inl ⟨by rfl, ?_⟩) ?_ ?_
  rotate_left
  · intro w'
    go_simp
    with_reducible rfl
  rotate_left
  · simp only [Act.put, List.setIfInBounds_toArray, List.set_cons_zero, List.set_cons_succ, i64_w, i32_w]
    rfl
  refine done_ (done_of HT_.out (by kernel_rfl)) ?_
  go_wp2
  go_ret
  exact ⟨G, O, P, S, _, rfl, by repeat (first | exact HB.out | apply below_alloc), blk_alloc BK.out _, blk_alloc BO.out _, blk_alloc BP.out _, blk_alloc BS.out _, blk_new _ _⟩


theorem faultplan_Plan.ldm {ρ : Operand → Value} {o : Oper} {w : World} {g : Nat} {cs : Array Value} {e : TypeId} (t : TypeId) (x : Operand) (off : Nat) (seg : List Value) (fs : Array Field) (ho : o.op = .load t x) (hx : ρ x = .pointer (some ⟨g, off, none⟩)) (hg : w.heap[g]? = some (.cells cs e (0, 0)))
    (hseg : (cs.toList.drop off).take seg.length = seg) (hu : Try.prog.underlying t = some (.struct fs)) (hi : (Try.prog.info? t).map (·.size) = some seg.length) :
    (execOp ρ o).run Try.prog w = .ok (.value (.agg seg.toArray)) w := by
  have h := run_loadVar_mid w g off t seg (.struct fs) (fun j v hv => by
    rw [blk_cell hg]
    rw [← hseg] at hv
    rw [List.getElem?_take] at hv
    split at hv
    · rw [List.getElem?_drop] at hv
      rw [← Array.getElem?_toList]
      exact hv
    · cases hv) hu rfl hi
  unfold execOp
  simp only [ho, hx, Instr.loadAt, Instr.sureAddr, Sem.run_bind, Sem.run_pure, Result.andThen_ok, h]
theorem faultplan_Plan.st {ops : Array Oper} {rest : List Oper} {o : Oper} {a : Act} {Q : Exit → Act → World → Prop} {W w0 : World} {g : Nat} {old cs : Array Value} {p : Tmp} {v : Operand} (t : TypeId)
    (hgd : o.guard = none) (hN : o.dst = none) (ho : o.op = .store t (.tmp p) v) (hp : a.eval (.tmp p) = .pointer (some ⟨g, 0, none⟩)) (hv : a.eval v = .agg cs) (hh : W.heap[g]? = some (.cells old t (0, 0)))
    (hsz : (Try.prog.info? t).map (·.size) = some cs.size) (hsz2 : cs.size = old.size) (h1 : ∀ q ∈ cs.toList, q.oneCell' = true) (HB : Below w0.heap.size w0 W) (hg : w0.heap.size ≤ g)
    (h : ∀ w1 : World, w1.heap[g]? = some (.cells cs t (0, 0)) → Below w0.heap.size w0 w1 → (∀ k b, k ≠ g → W.heap[k]? = some b → w1.heap[k]? = some b) → wpList Try.prog ops Q rest a w1) : wpList Try.prog ops Q (o :: rest) a W := by
  have hr := run_store_run (P := Try.prog) (w := W) (g := g) (o := 0) (e := t) (cur := old) t (.agg cs) cs.toList hh rfl (by simpa using hsz) (by simp; omega) h1
  refine store_event (w1 := W.setCells g 0 cs.toList) hgd ho hN ?_ fun w' hw' => ?_
  · unfold execOp
    simp only [ho, hp, hv, Sem.run_bind, hr, Result.andThen_ok, Sem.run_pure]
  · subst hw'
    obtain ⟨cur', h3, h4, h5⟩ := setCells_row cs.toList 0 W old hh (by simp; omega)
    have hcur : cur' = cs := by
      apply Array.ext'
      rw [h5]
      simp
      omega
    subst hcur
    obtain ⟨s1, s2, s3, s4⟩ := setCells_same g cur'.toList 0 W
    refine h _ h3 (HB.trans ⟨s1, s2, s3, by rw [s4]; exact Nat.le_refl _, fun k hk => setCells_far _ _ k (by omega)⟩) fun k b hk hb => (setCells_far _ _ k hk).trans hb

def faultplan_Plan.pick (o p s : Bool) (a0_0 : Bool) (a0_1 : Bool) (a0_2 : Int) (a0_3 : Bool) (a0_4 : Bool) (a0_5 : Bool) (a0_6 : Bool) (a0_7 : Int) (a0_8 : Bool) (a0_9 : Bool) (a0_10 : Bool) (a0_11 : Bool) (a0_12 : Bool) (a0_13 : Bool) (a0_14 : Bool) (a0_15 : Bool) (a0_16 : Int) : Option (Int × Int × Int × Int × Int × Int) := if (!a0_1) = true then some (1, 13, 0, 0, 0, 0) else if ((a0_0 && (a0_2 == 1))) = true then some (1, 12, 0, 0, 0, 0) else if ((a0_5 && !o)) = true then some (1, 14, 0, 0, 0, 0) else if ((p && (!a0_0 || a0_8))) = true then some (0, 0, 0, 0, 0, 0) else if ((a0_6 && !o)) = true then some (2, 0, 4, 0, 0, 0) else if (a0_9) = true then some (2, 0, 3, 0, 0, 0) else if ((p && a0_10 && a0_11)) = true then some (8, 0, 0, 0, 0, 0) else if ((p && (a0_10 || !a0_3))) = true then some (9, 0, 0, 0, 1, 0) else if ((p && !a0_14 && a0_15)) = true then some (2, 0, 5, 0, 0, 0) else if (p) = true then some (7, 0, 0, 0, 0, 0) else if ((s && a0_12)) = true then some (10, 0, 0, 0, 0, 0) else if (s) = true then some (11, 0, 0, 0, 1, 0) else if (!a0_4) = true then some (3, 0, 0, a0_16, 1, 0) else if (a0_12) = true then some (6, 0, 0, a0_16, 0, 0) else if (!a0_13) = true then some (4, 0, 0, a0_16, 1, 0) else if (true) = true then some (5, 0, 0, 0, 1, 0) else none
def faultplan_Plan.f (k : Nat) (a0_0 : Bool) (a0_1 : Bool) (a0_2 : Int) (a0_3 : Bool) (a0_4 : Bool) (a0_5 : Bool) (a0_6 : Bool) (a0_7 : Int) (a0_8 : Bool) (a0_9 : Bool) (a0_10 : Bool) (a0_11 : Bool) (a0_12 : Bool) (a0_13 : Bool) (a0_14 : Bool) (a0_15 : Bool) (a0_16 : Int) : Option (Int × Int × Int × Int × Int × Int) := (faultplan_Check.f k a0_0 a0_1 a0_2 a0_3 a0_4 a0_5 a0_6 a0_7 a0_8 a0_9 a0_10 a0_11 a0_12 a0_13 a0_14 a0_15 a0_16).bind fun e => if e = 0 then ((faultplan_copied.f a0_0 a0_1 a0_2 a0_3 a0_4 a0_5 a0_6 a0_7 a0_8 a0_9 a0_10 a0_11 a0_12 a0_13 a0_14 a0_15 a0_16).bind fun o => if a0_1 = false ∨ a0_2 = 1 ∨ a0_2 = 3 then faultplan_Plan.pick o (a0_7 == 1) (a0_7 == 2) a0_0 a0_1 a0_2 a0_3 a0_4 a0_5 a0_6 a0_7 a0_8 a0_9 a0_10 a0_11 a0_12 a0_13 a0_14 a0_15 a0_16 else none) else some (0, 0, 0, 0, 0, e)
theorem faultplan_Plan.mono : ∀ a0 a1 a2 a3 a4 a5 a6 a7 a8 a9 a10 a11 a12 a13 a14 a15 a16 k, LeO (faultplan_Plan.f k a0 a1 a2 a3 a4 a5 a6 a7 a8 a9 a10 a11 a12 a13 a14 a15 a16) (faultplan_Plan.f (k + 1) a0 a1 a2 a3 a4 a5 a6 a7 a8 a9 a10 a11 a12 a13 a14 a15 a16) := by
  intro a0 a1 a2 a3 a4 a5 a6 a7 a8 a9 a10 a11 a12 a13 a14 a15 a16 k
  unfold faultplan_Plan.f
  exact LeO.bind (faultplan_Check.mono _ _ _ _ _ _ _ _ _ _ _ _ _ _ _ _ _ _) (fun _ => LeO.refl _)
set_option maxHeartbeats 16000000 in
set_option maxRecDepth 100000 in
theorem faultplan_Plan.calls (k : Nat) (a0_0 : Bool) (a0_1 : Bool) (a0_2 : Int) (a0_3 : Bool) (a0_4 : Bool) (a0_5 : Bool) (a0_6 : Bool) (a0_7 : Int) (a0_8 : Bool) (a0_9 : Bool) (a0_10 : Bool) (a0_11 : Bool) (a0_12 : Bool) (a0_13 : Bool) (a0_14 : Bool) (a0_15 : Bool) (a0_16 : Int) (r1 r2 r3 r4 r5 r6 : Int) (w : World) (h : faultplan_Plan.f k a0_0 a0_1 a0_2 a0_3 a0_4 a0_5 a0_6 a0_7 a0_8 a0_9 a0_10 a0_11 a0_12 a0_13 a0_14 a0_15 a0_16 = some (r1, r2, r3, r4, r5, r6)) :
    Calls Try.prog 13 #[.agg #[.bool a0_0, .bool a0_1, .int .i64 a0_2, .bool a0_3, .bool a0_4, .bool a0_5, .bool a0_6, .int .i64 a0_7, .bool a0_8, .bool a0_9, .bool a0_10, .bool a0_11, .bool a0_12, .bool a0_13, .bool a0_14, .bool a0_15, .int .i64 a0_16]] w fun e w' => e = .returned (.tuple #[.agg #[.int .i64 r1, .int .i64 r2, .int .i64 r3, .int .i64 r4, .int .i64 r5], .int .i64 r6]) ∧ Below w.heap.size w w' := by
  have hu23 := Try.underlying23
  have hu28 := Try.underlying28
  have hu36 := Try.underlying36
  have HB := Aside0.mk (Below.refl w.heap.size w)
  obtain ⟨e, hc, h2⟩ := Option.bind_eq_some_iff.1 h
  have HC := Aside0.mk hc
  clear h hc
  by_cases he : e = 0
  · subst he
    rw [if_pos rfl] at h2
    obtain ⟨o, ho, h3⟩ := Option.bind_eq_some_iff.1 h2
    have HO := Aside0.mk ho
    by_cases hpr : a0_1 = false ∨ a0_2 = 1 ∨ a0_2 = 3
    · rw [if_pos hpr] at h3
      generalize hp : (a0_7 == 1) = p at h3
      generalize hs : (a0_7 == 2) = s at h3
      have HPP := Aside0.mk hp
      have HSS := Aside0.mk hs
      have HPK := Aside0.mk h3
      have HPR := Aside0.mk hpr
      clear hp hs h3 h2 ho hpr
      go_enter Try.func13, Try.ntmps13
      go_upto_block 0 with (first
        | ((with_reducible refine gate_dst (N := 13) rfl ?_); refine Kd.event_run (v := .agg #[.bool a0_0, .bool a0_1, .int .i64 a0_2, .bool a0_3, .bool a0_4, .bool a0_5, .bool a0_6, .int .i64 a0_7, .bool a0_8, .bool a0_9, .bool a0_10, .bool a0_11, .bool a0_12, .bool a0_13, .bool a0_14, .bool a0_15, .int .i64 a0_16]) rfl (faultplan_Plan.ld 23 (.tmp 1) _ rfl rfl BK.out hu23 (by kernel_rfl)) ?_)
        | (go_at_call 20; (with_reducible refine (faultplan_rules.calls a0_0 a0_1 a0_2 a0_3 a0_4 a0_5 a0_6 a0_7 a0_8 a0_9 a0_10 a0_11 a0_12 a0_13 a0_14 a0_15 a0_16 o p s _ HO.out HPP.out HSS.out).mono ?_); rintro e2 w6 ⟨G, O, P, S, b, rfl, hb, hG, hO, hP, hS, hR⟩; have m0_ := Aside0.mk (blk_below B2.out hb); clear B2 BK; have B2 := m0_; clear m0_; have BK := Aside0.mk hG; have BO := Aside0.mk hO; have BP := Aside0.mk hP; have BS := Aside0.mk hS; have BR := Aside0.mk hR; have n0_ := Aside0.mk (below_step HB.out hb); clear HB; have HB := n0_; clear n0_; clear hb hG hO hP hS hR)
        | ((with_reducible refine gate_dst (N := 1) rfl ?_); refine box_event ?hg (N := 1) ?hd (cs := #[.bool a0_0, .bool a0_1, .int .i64 a0_2, .bool a0_3, .bool a0_4, .bool a0_5, .bool a0_6, .int .i64 a0_7, .bool a0_8, .bool a0_9, .bool a0_10, .bool a0_11, .bool a0_12, .bool a0_13, .bool a0_14, .bool a0_15, .int .i64 a0_16]) (t := 23) ?hr ?_; (case hd => rfl); (case hg => rfl); (case hr => first | (go_simp; done) | (go_simp; rfl)); intro gb hg w3 hbox hb; have BK := Aside0.mk hbox; have n0_ := Aside0.mk (below_step HB.out hb); clear HB; have HB := n0_; clear n0_; clear hb hbox hg)
        | ((with_reducible refine gate_dst (N := 2) rfl ?_); refine box_event ?hg (N := 2) ?hd (cs := #[.int .i64 0, .int .i64 0, .int .i64 0, .int .i64 0, .int .i64 0]) (t := 28) ?hr ?_; (case hd => rfl); (case hg => rfl); (case hr => first | (go_simp; done) | (go_simp; rfl)); intro g2 hg w4 hbox hb; have G2 : Aside0 (w.heap.size ≤ g2) := Aside0.mk (by rw [hg]; exact below_size HB.out); have m0_ := Aside0.mk (blk_below BK.out hb); have B2 := Aside0.mk hbox; have n0_ := Aside0.mk (below_step HB.out hb); clear HB; have HB := n0_; clear n0_; clear BK hb hbox hg; have BK := m0_; clear m0_)
        | ((with_reducible refine gate_dst (N := 7) rfl ?_); refine Kd.event_run (v := .agg #[.bool a0_0, .bool a0_1, .int .i64 a0_2, .bool a0_3, .bool a0_4, .bool a0_5, .bool a0_6, .int .i64 a0_7, .bool a0_8, .bool a0_9, .bool a0_10, .bool a0_11, .bool a0_12, .bool a0_13, .bool a0_14, .bool a0_15, .int .i64 a0_16]) rfl (faultplan_Plan.ld 23 (.tmp 1) _ rfl rfl BK.out hu23 (by kernel_rfl)) ?_)
        | (go_at_call 10; (with_reducible refine (faultplan_Check.calls k a0_0 a0_1 a0_2 a0_3 a0_4 a0_5 a0_6 a0_7 a0_8 a0_9 a0_10 a0_11 a0_12 a0_13 a0_14 a0_15 a0_16 0 _ HC.out).mono ?_); rintro e1 w5 ⟨rfl, hb⟩; have m0_ := Aside0.mk (blk_below BK.out hb); have m1_ := Aside0.mk (blk_below B2.out hb); have n0_ := Aside0.mk (below_step HB.out hb); clear HB; have HB := n0_; clear n0_; clear BK B2 hb; have BK := m0_; have B2 := m1_; clear m0_ m1_))
      have PR1 : a0_1 = true → a0_2 = 1 ∨ a0_2 = 3 := fun h0 => (HPR.out).elim (fun h => by rw [h0] at h; cases h) id
      go_wp2
      refine wp_loop_rounds 16 ?_
      rcases Bool.eq_false_or_eq_true (!a0_1) with ht | ht
      · have HT0 := Aside0.mk ht
        clear ht
        rw [rounds_succ]
        go_wp2_with (first
            | ((with_reducible refine gate_dst (N := 19) rfl ?_); refine Kd.event_run (v := .agg #[.func (.func 32) #[] #[.pointer (some ⟨G, 0, none⟩)], .int .i64 1, .int .i64 13, .int .i64 0, .int .i64 0, .int .i64 0]) rfl (faultplan_Plan.ldm 36 (.tmp 18) 0 [.func (.func 32) #[] #[.pointer (some ⟨G, 0, none⟩)], .int .i64 1, .int .i64 13, .int .i64 0, .int .i64 0, .int .i64 0] _ rfl rfl BR.out rfl hu36 (by kernel_rfl)) ?_)
            | ((with_reducible refine gate_dst (N := 6) rfl ?_); refine box_event ?hg (N := 6) ?hd (cs := #[.nilFunc, .int .i64 0, .int .i64 0, .int .i64 0, .int .i64 0, .int .i64 0]) (t := 36) ?hr ?_; (case hd => rfl); (case hg => rfl); (case hr => first | (go_simp; done) | (go_simp; rfl)); intro gr hg w7 hbox hb; have GR : Aside0 (w.heap.size ≤ gr) := Aside0.mk (by rw [hg]; exact below_size HB.out); have BRR := Aside0.mk hbox; have NEBK := Aside0.mk (Nat.ne_of_lt (Nat.lt_of_lt_of_eq (blk_lt BK.out) hg.symm)); have NEBO := Aside0.mk (Nat.ne_of_lt (Nat.lt_of_lt_of_eq (blk_lt BO.out) hg.symm)); have NEBP := Aside0.mk (Nat.ne_of_lt (Nat.lt_of_lt_of_eq (blk_lt BP.out) hg.symm)); have NEBS := Aside0.mk (Nat.ne_of_lt (Nat.lt_of_lt_of_eq (blk_lt BS.out) hg.symm)); have NEBR := Aside0.mk (Nat.ne_of_lt (Nat.lt_of_lt_of_eq (blk_lt BR.out) hg.symm)); have NEB2 := Aside0.mk (Nat.ne_of_lt (Nat.lt_of_lt_of_eq (blk_lt B2.out) hg.symm)); have m0_ := Aside0.mk (blk_below BK.out hb); have m1_ := Aside0.mk (blk_below BO.out hb); have m2_ := Aside0.mk (blk_below BP.out hb); have m3_ := Aside0.mk (blk_below BS.out hb); have m4_ := Aside0.mk (blk_below BR.out hb); have m5_ := Aside0.mk (blk_below B2.out hb); clear BK BO BP BS BR B2; have BK := m0_; have BO := m1_; have BP := m2_; have BS := m3_; have BR := m4_; have B2 := m5_; clear m0_ m1_ m2_ m3_ m4_ m5_; have n0_ := Aside0.mk (below_step HB.out hb); clear HB; have HB := n0_; clear n0_; clear hbox hb hg)
            | ((with_reducible refine gate_store (t := 36) (p := 6) rfl ?_); refine faultplan_Plan.st (w0 := w) 36 rfl rfl rfl rfl rfl BRR.out (by kernel_rfl) rfl (by simp [Value.oneCell']) HB.out GR.out ?_; intro w8 hz hb2 hk; clear BRR HB; have BRR := Aside0.mk hz; have HB := Aside0.mk hb2; have m0_ := Aside0.mk (hk _ _ NEBK.out BK.out); have m1_ := Aside0.mk (hk _ _ NEBO.out BO.out); have m2_ := Aside0.mk (hk _ _ NEBP.out BP.out); have m3_ := Aside0.mk (hk _ _ NEBS.out BS.out); have m4_ := Aside0.mk (hk _ _ NEBR.out BR.out); have m5_ := Aside0.mk (hk _ _ NEB2.out B2.out); clear BK BO BP BS BR B2; have BK := m0_; have BO := m1_; have BP := m2_; have BS := m3_; have BR := m4_; have B2 := m5_; clear m0_ m1_ m2_ m3_ m4_ m5_; clear hz hb2 hk GR NEBK NEBO NEBP NEBS NEBR NEB2; have hcr : w8.cell? ⟨gr, 0, none⟩ = some (.func (.func 32) #[] #[.pointer (some ⟨G, 0, none⟩)]) := (blk_cell BRR.out 0).trans rfl)
            | (go_at_call 32; (with_reducible refine (faultplan_rules.t0 G a0_1 _ ((blk_cell BK.out 1).trans rfl)).mono ?_); rintro e9 w9 ⟨rfl, hb⟩; rw [HT0.out]; have mr_ := Aside0.mk (blk_below BRR.out hb); clear BRR hcr; have BRR := mr_; clear mr_; have m0_ := Aside0.mk (blk_below BK.out hb); have m1_ := Aside0.mk (blk_below BO.out hb); have m2_ := Aside0.mk (blk_below BP.out hb); have m3_ := Aside0.mk (blk_below BS.out hb); have m4_ := Aside0.mk (blk_below BR.out hb); have m5_ := Aside0.mk (blk_below B2.out hb); clear BK BO BP BS BR B2; have BK := m0_; have BO := m1_; have BP := m2_; have BS := m3_; have BR := m4_; have B2 := m5_; clear m0_ m1_ m2_ m3_ m4_ m5_; have n0_ := Aside0.mk (below_step HB.out hb); clear HB; have HB := n0_; clear n0_; clear hb)
            | ((with_reducible refine gate_dst (N := 24) rfl ?_); refine Kd.event_run (v := .agg #[.int .i64 1, .int .i64 13, .int .i64 0, .int .i64 0, .int .i64 0]) rfl (faultplan_Plan.ldm 28 (.tmp 23) 1 [.int .i64 1, .int .i64 13, .int .i64 0, .int .i64 0, .int .i64 0] _ rfl rfl BRR.out rfl hu28 (by kernel_rfl)) ?_)
            | ((with_reducible refine gate_store (t := 28) (p := 2) rfl ?_); refine faultplan_Plan.st (w0 := w) 28 rfl rfl rfl rfl rfl B2.out (by kernel_rfl) rfl (by simp [Value.oneCell']) HB.out G2.out ?_; intro wz hz hb hk; clear B2 HB; have B2 := Aside0.mk hz; have HB := Aside0.mk hb; clear hz hb hk))
        have h0 := HPK.out
        unfold faultplan_Plan.pick at h0
        rw [if_pos HT0.out] at h0
        simp only [Option.some.injEq, Prod.mk.injEq] at h0
        obtain ⟨rfl, rfl, rfl, rfl, rfl, rfl⟩ := h0
        refine bodyPost_ret (results_ct rfl _ _ g2 28 #[.int .i64 1, .int .i64 13, .int .i64 0, .int .i64 0, .int .i64 0] (0, 0) _ rfl B2.out hu28 rfl (by kernel_rfl)) rfl ?_
        exact ⟨rfl, HB.out⟩
      have HT0 := Aside0.mk ht
      clear ht
      rw [rounds_succ]
      go_wp2_with (first
            | ((with_reducible refine gate_dst (N := 19) rfl ?_); refine Kd.event_run (v := .agg #[.func (.func 32) #[] #[.pointer (some ⟨G, 0, none⟩)], .int .i64 1, .int .i64 13, .int .i64 0, .int .i64 0, .int .i64 0]) rfl (faultplan_Plan.ldm 36 (.tmp 18) 0 [.func (.func 32) #[] #[.pointer (some ⟨G, 0, none⟩)], .int .i64 1, .int .i64 13, .int .i64 0, .int .i64 0, .int .i64 0] _ rfl rfl BR.out rfl hu36 (by kernel_rfl)) ?_)
            | ((with_reducible refine gate_dst (N := 6) rfl ?_); refine box_event ?hg (N := 6) ?hd (cs := #[.nilFunc, .int .i64 0, .int .i64 0, .int .i64 0, .int .i64 0, .int .i64 0]) (t := 36) ?hr ?_; (case hd => rfl); (case hg => rfl); (case hr => first | (go_simp; done) | (go_simp; rfl)); intro gr hg w7 hbox hb; have GR : Aside0 (w.heap.size ≤ gr) := Aside0.mk (by rw [hg]; exact below_size HB.out); have BRR := Aside0.mk hbox; have NEBK := Aside0.mk (Nat.ne_of_lt (Nat.lt_of_lt_of_eq (blk_lt BK.out) hg.symm)); have NEBO := Aside0.mk (Nat.ne_of_lt (Nat.lt_of_lt_of_eq (blk_lt BO.out) hg.symm)); have NEBP := Aside0.mk (Nat.ne_of_lt (Nat.lt_of_lt_of_eq (blk_lt BP.out) hg.symm)); have NEBS := Aside0.mk (Nat.ne_of_lt (Nat.lt_of_lt_of_eq (blk_lt BS.out) hg.symm)); have NEBR := Aside0.mk (Nat.ne_of_lt (Nat.lt_of_lt_of_eq (blk_lt BR.out) hg.symm)); have NEB2 := Aside0.mk (Nat.ne_of_lt (Nat.lt_of_lt_of_eq (blk_lt B2.out) hg.symm)); have m0_ := Aside0.mk (blk_below BK.out hb); have m1_ := Aside0.mk (blk_below BO.out hb); have m2_ := Aside0.mk (blk_below BP.out hb); have m3_ := Aside0.mk (blk_below BS.out hb); have m4_ := Aside0.mk (blk_below BR.out hb); have m5_ := Aside0.mk (blk_below B2.out hb); clear BK BO BP BS BR B2; have BK := m0_; have BO := m1_; have BP := m2_; have BS := m3_; have BR := m4_; have B2 := m5_; clear m0_ m1_ m2_ m3_ m4_ m5_; have n0_ := Aside0.mk (below_step HB.out hb); clear HB; have HB := n0_; clear n0_; clear hbox hb hg)
            | ((with_reducible refine gate_store (t := 36) (p := 6) rfl ?_); refine faultplan_Plan.st (w0 := w) 36 rfl rfl rfl rfl rfl BRR.out (by kernel_rfl) rfl (by simp [Value.oneCell']) HB.out GR.out ?_; intro w8 hz hb2 hk; clear BRR HB; have BRR := Aside0.mk hz; have HB := Aside0.mk hb2; have m0_ := Aside0.mk (hk _ _ NEBK.out BK.out); have m1_ := Aside0.mk (hk _ _ NEBO.out BO.out); have m2_ := Aside0.mk (hk _ _ NEBP.out BP.out); have m3_ := Aside0.mk (hk _ _ NEBS.out BS.out); have m4_ := Aside0.mk (hk _ _ NEBR.out BR.out); have m5_ := Aside0.mk (hk _ _ NEB2.out B2.out); clear BK BO BP BS BR B2; have BK := m0_; have BO := m1_; have BP := m2_; have BS := m3_; have BR := m4_; have B2 := m5_; clear m0_ m1_ m2_ m3_ m4_ m5_; clear hz hb2 hk GR NEBK NEBO NEBP NEBS NEBR NEB2; have hcr : w8.cell? ⟨gr, 0, none⟩ = some (.func (.func 32) #[] #[.pointer (some ⟨G, 0, none⟩)]) := (blk_cell BRR.out 0).trans rfl)
            | (go_at_call 32; (with_reducible refine (faultplan_rules.t0 G a0_1 _ ((blk_cell BK.out 1).trans rfl)).mono ?_); rintro e9 w9 ⟨rfl, hb⟩; rw [HT0.out]; have mr_ := Aside0.mk (blk_below BRR.out hb); clear BRR hcr; have BRR := mr_; clear mr_; have m0_ := Aside0.mk (blk_below BK.out hb); have m1_ := Aside0.mk (blk_below BO.out hb); have m2_ := Aside0.mk (blk_below BP.out hb); have m3_ := Aside0.mk (blk_below BS.out hb); have m4_ := Aside0.mk (blk_below BR.out hb); have m5_ := Aside0.mk (blk_below B2.out hb); clear BK BO BP BS BR B2; have BK := m0_; have BO := m1_; have BP := m2_; have BS := m3_; have BR := m4_; have B2 := m5_; clear m0_ m1_ m2_ m3_ m4_ m5_; have n0_ := Aside0.mk (below_step HB.out hb); clear HB; have HB := n0_; clear n0_; clear hb))
      clear BRR
      rcases Bool.eq_false_or_eq_true ((a0_0 && (a0_2 == 1))) with ht | ht
      · have HT1 := Aside0.mk ht
        clear ht
        rw [rounds_succ]
        go_wp2_with (first
            | ((with_reducible refine gate_dst (N := 19) rfl ?_); refine Kd.event_run (v := .agg #[.func (.func 33) #[] #[.pointer (some ⟨G, 0, none⟩)], .int .i64 1, .int .i64 12, .int .i64 0, .int .i64 0, .int .i64 0]) rfl (faultplan_Plan.ldm 36 (.tmp 18) 6 [.func (.func 33) #[] #[.pointer (some ⟨G, 0, none⟩)], .int .i64 1, .int .i64 12, .int .i64 0, .int .i64 0, .int .i64 0] _ rfl rfl BR.out rfl hu36 (by kernel_rfl)) ?_)
            | ((with_reducible refine gate_dst (N := 6) rfl ?_); refine box_event ?hg (N := 6) ?hd (cs := #[.nilFunc, .int .i64 0, .int .i64 0, .int .i64 0, .int .i64 0, .int .i64 0]) (t := 36) ?hr ?_; (case hd => rfl); (case hg => rfl); (case hr => first | (go_simp; done) | (go_simp; rfl)); intro gr hg w7 hbox hb; have GR : Aside0 (w.heap.size ≤ gr) := Aside0.mk (by rw [hg]; exact below_size HB.out); have BRR := Aside0.mk hbox; have NEBK := Aside0.mk (Nat.ne_of_lt (Nat.lt_of_lt_of_eq (blk_lt BK.out) hg.symm)); have NEBO := Aside0.mk (Nat.ne_of_lt (Nat.lt_of_lt_of_eq (blk_lt BO.out) hg.symm)); have NEBP := Aside0.mk (Nat.ne_of_lt (Nat.lt_of_lt_of_eq (blk_lt BP.out) hg.symm)); have NEBS := Aside0.mk (Nat.ne_of_lt (Nat.lt_of_lt_of_eq (blk_lt BS.out) hg.symm)); have NEBR := Aside0.mk (Nat.ne_of_lt (Nat.lt_of_lt_of_eq (blk_lt BR.out) hg.symm)); have NEB2 := Aside0.mk (Nat.ne_of_lt (Nat.lt_of_lt_of_eq (blk_lt B2.out) hg.symm)); have m0_ := Aside0.mk (blk_below BK.out hb); have m1_ := Aside0.mk (blk_below BO.out hb); have m2_ := Aside0.mk (blk_below BP.out hb); have m3_ := Aside0.mk (blk_below BS.out hb); have m4_ := Aside0.mk (blk_below BR.out hb); have m5_ := Aside0.mk (blk_below B2.out hb); clear BK BO BP BS BR B2; have BK := m0_; have BO := m1_; have BP := m2_; have BS := m3_; have BR := m4_; have B2 := m5_; clear m0_ m1_ m2_ m3_ m4_ m5_; have n0_ := Aside0.mk (below_step HB.out hb); clear HB; have HB := n0_; clear n0_; clear hbox hb hg)
            | ((with_reducible refine gate_store (t := 36) (p := 6) rfl ?_); refine faultplan_Plan.st (w0 := w) 36 rfl rfl rfl rfl rfl BRR.out (by kernel_rfl) rfl (by simp [Value.oneCell']) HB.out GR.out ?_; intro w8 hz hb2 hk; clear BRR HB; have BRR := Aside0.mk hz; have HB := Aside0.mk hb2; have m0_ := Aside0.mk (hk _ _ NEBK.out BK.out); have m1_ := Aside0.mk (hk _ _ NEBO.out BO.out); have m2_ := Aside0.mk (hk _ _ NEBP.out BP.out); have m3_ := Aside0.mk (hk _ _ NEBS.out BS.out); have m4_ := Aside0.mk (hk _ _ NEBR.out BR.out); have m5_ := Aside0.mk (hk _ _ NEB2.out B2.out); clear BK BO BP BS BR B2; have BK := m0_; have BO := m1_; have BP := m2_; have BS := m3_; have BR := m4_; have B2 := m5_; clear m0_ m1_ m2_ m3_ m4_ m5_; clear hz hb2 hk GR NEBK NEBO NEBP NEBS NEBR NEB2; have hcr : w8.cell? ⟨gr, 0, none⟩ = some (.func (.func 33) #[] #[.pointer (some ⟨G, 0, none⟩)]) := (blk_cell BRR.out 0).trans rfl)
            | (go_at_call 33; (with_reducible refine (faultplan_rules.t1 G a0_0 a0_2 _ ((blk_cell BK.out 0).trans rfl) ((blk_cell BK.out 2).trans rfl) (PR1 (by simpa using HT0.out))).mono ?_); rintro e9 w9 ⟨rfl, hb⟩; rw [HT1.out]; have mr_ := Aside0.mk (blk_below BRR.out hb); clear BRR hcr; have BRR := mr_; clear mr_; have m0_ := Aside0.mk (blk_below BK.out hb); have m1_ := Aside0.mk (blk_below BO.out hb); have m2_ := Aside0.mk (blk_below BP.out hb); have m3_ := Aside0.mk (blk_below BS.out hb); have m4_ := Aside0.mk (blk_below BR.out hb); have m5_ := Aside0.mk (blk_below B2.out hb); clear BK BO BP BS BR B2; have BK := m0_; have BO := m1_; have BP := m2_; have BS := m3_; have BR := m4_; have B2 := m5_; clear m0_ m1_ m2_ m3_ m4_ m5_; have n0_ := Aside0.mk (below_step HB.out hb); clear HB; have HB := n0_; clear n0_; clear hb)
            | ((with_reducible refine gate_dst (N := 24) rfl ?_); refine Kd.event_run (v := .agg #[.int .i64 1, .int .i64 12, .int .i64 0, .int .i64 0, .int .i64 0]) rfl (faultplan_Plan.ldm 28 (.tmp 23) 1 [.int .i64 1, .int .i64 12, .int .i64 0, .int .i64 0, .int .i64 0] _ rfl rfl BRR.out rfl hu28 (by kernel_rfl)) ?_)
            | ((with_reducible refine gate_store (t := 28) (p := 2) rfl ?_); refine faultplan_Plan.st (w0 := w) 28 rfl rfl rfl rfl rfl B2.out (by kernel_rfl) rfl (by simp [Value.oneCell']) HB.out G2.out ?_; intro wz hz hb hk; clear B2 HB; have B2 := Aside0.mk hz; have HB := Aside0.mk hb; clear hz hb hk))
        have h0 := HPK.out
        unfold faultplan_Plan.pick at h0
        rw [if_neg (Bool.eq_false_iff.mp HT0.out), if_pos HT1.out] at h0
        simp only [Option.some.injEq, Prod.mk.injEq] at h0
        obtain ⟨rfl, rfl, rfl, rfl, rfl, rfl⟩ := h0
        refine bodyPost_ret (results_ct rfl _ _ g2 28 #[.int .i64 1, .int .i64 12, .int .i64 0, .int .i64 0, .int .i64 0] (0, 0) _ rfl B2.out hu28 rfl (by kernel_rfl)) rfl ?_
        exact ⟨rfl, HB.out⟩
      have HT1 := Aside0.mk ht
      clear ht
      rw [rounds_succ]
      go_wp2_with (first
            | ((with_reducible refine gate_dst (N := 19) rfl ?_); refine Kd.event_run (v := .agg #[.func (.func 33) #[] #[.pointer (some ⟨G, 0, none⟩)], .int .i64 1, .int .i64 12, .int .i64 0, .int .i64 0, .int .i64 0]) rfl (faultplan_Plan.ldm 36 (.tmp 18) 6 [.func (.func 33) #[] #[.pointer (some ⟨G, 0, none⟩)], .int .i64 1, .int .i64 12, .int .i64 0, .int .i64 0, .int .i64 0] _ rfl rfl BR.out rfl hu36 (by kernel_rfl)) ?_)
            | ((with_reducible refine gate_dst (N := 6) rfl ?_); refine box_event ?hg (N := 6) ?hd (cs := #[.nilFunc, .int .i64 0, .int .i64 0, .int .i64 0, .int .i64 0, .int .i64 0]) (t := 36) ?hr ?_; (case hd => rfl); (case hg => rfl); (case hr => first | (go_simp; done) | (go_simp; rfl)); intro gr hg w7 hbox hb; have GR : Aside0 (w.heap.size ≤ gr) := Aside0.mk (by rw [hg]; exact below_size HB.out); have BRR := Aside0.mk hbox; have NEBK := Aside0.mk (Nat.ne_of_lt (Nat.lt_of_lt_of_eq (blk_lt BK.out) hg.symm)); have NEBO := Aside0.mk (Nat.ne_of_lt (Nat.lt_of_lt_of_eq (blk_lt BO.out) hg.symm)); have NEBP := Aside0.mk (Nat.ne_of_lt (Nat.lt_of_lt_of_eq (blk_lt BP.out) hg.symm)); have NEBS := Aside0.mk (Nat.ne_of_lt (Nat.lt_of_lt_of_eq (blk_lt BS.out) hg.symm)); have NEBR := Aside0.mk (Nat.ne_of_lt (Nat.lt_of_lt_of_eq (blk_lt BR.out) hg.symm)); have NEB2 := Aside0.mk (Nat.ne_of_lt (Nat.lt_of_lt_of_eq (blk_lt B2.out) hg.symm)); have m0_ := Aside0.mk (blk_below BK.out hb); have m1_ := Aside0.mk (blk_below BO.out hb); have m2_ := Aside0.mk (blk_below BP.out hb); have m3_ := Aside0.mk (blk_below BS.out hb); have m4_ := Aside0.mk (blk_below BR.out hb); have m5_ := Aside0.mk (blk_below B2.out hb); clear BK BO BP BS BR B2; have BK := m0_; have BO := m1_; have BP := m2_; have BS := m3_; have BR := m4_; have B2 := m5_; clear m0_ m1_ m2_ m3_ m4_ m5_; have n0_ := Aside0.mk (below_step HB.out hb); clear HB; have HB := n0_; clear n0_; clear hbox hb hg)
            | ((with_reducible refine gate_store (t := 36) (p := 6) rfl ?_); refine faultplan_Plan.st (w0 := w) 36 rfl rfl rfl rfl rfl BRR.out (by kernel_rfl) rfl (by simp [Value.oneCell']) HB.out GR.out ?_; intro w8 hz hb2 hk; clear BRR HB; have BRR := Aside0.mk hz; have HB := Aside0.mk hb2; have m0_ := Aside0.mk (hk _ _ NEBK.out BK.out); have m1_ := Aside0.mk (hk _ _ NEBO.out BO.out); have m2_ := Aside0.mk (hk _ _ NEBP.out BP.out); have m3_ := Aside0.mk (hk _ _ NEBS.out BS.out); have m4_ := Aside0.mk (hk _ _ NEBR.out BR.out); have m5_ := Aside0.mk (hk _ _ NEB2.out B2.out); clear BK BO BP BS BR B2; have BK := m0_; have BO := m1_; have BP := m2_; have BS := m3_; have BR := m4_; have B2 := m5_; clear m0_ m1_ m2_ m3_ m4_ m5_; clear hz hb2 hk GR NEBK NEBO NEBP NEBS NEBR NEB2; have hcr : w8.cell? ⟨gr, 0, none⟩ = some (.func (.func 33) #[] #[.pointer (some ⟨G, 0, none⟩)]) := (blk_cell BRR.out 0).trans rfl)
            | (go_at_call 33; (with_reducible refine (faultplan_rules.t1 G a0_0 a0_2 _ ((blk_cell BK.out 0).trans rfl) ((blk_cell BK.out 2).trans rfl) (PR1 (by simpa using HT0.out))).mono ?_); rintro e9 w9 ⟨rfl, hb⟩; rw [HT1.out]; have mr_ := Aside0.mk (blk_below BRR.out hb); clear BRR hcr; have BRR := mr_; clear mr_; have m0_ := Aside0.mk (blk_below BK.out hb); have m1_ := Aside0.mk (blk_below BO.out hb); have m2_ := Aside0.mk (blk_below BP.out hb); have m3_ := Aside0.mk (blk_below BS.out hb); have m4_ := Aside0.mk (blk_below BR.out hb); have m5_ := Aside0.mk (blk_below B2.out hb); clear BK BO BP BS BR B2; have BK := m0_; have BO := m1_; have BP := m2_; have BS := m3_; have BR := m4_; have B2 := m5_; clear m0_ m1_ m2_ m3_ m4_ m5_; have n0_ := Aside0.mk (below_step HB.out hb); clear HB; have HB := n0_; clear n0_; clear hb))
      clear BRR
      rcases Bool.eq_false_or_eq_true ((a0_5 && !o)) with ht | ht
      · have HT2 := Aside0.mk ht
        clear ht
        rw [rounds_succ]
        go_wp2_with (first
            | ((with_reducible refine gate_dst (N := 19) rfl ?_); refine Kd.event_run (v := .agg #[.func (.func 34) #[] #[.pointer (some ⟨G, 0, none⟩), .pointer (some ⟨O, 0, none⟩)], .int .i64 1, .int .i64 14, .int .i64 0, .int .i64 0, .int .i64 0]) rfl (faultplan_Plan.ldm 36 (.tmp 18) 12 [.func (.func 34) #[] #[.pointer (some ⟨G, 0, none⟩), .pointer (some ⟨O, 0, none⟩)], .int .i64 1, .int .i64 14, .int .i64 0, .int .i64 0, .int .i64 0] _ rfl rfl BR.out rfl hu36 (by kernel_rfl)) ?_)
            | ((with_reducible refine gate_dst (N := 6) rfl ?_); refine box_event ?hg (N := 6) ?hd (cs := #[.nilFunc, .int .i64 0, .int .i64 0, .int .i64 0, .int .i64 0, .int .i64 0]) (t := 36) ?hr ?_; (case hd => rfl); (case hg => rfl); (case hr => first | (go_simp; done) | (go_simp; rfl)); intro gr hg w7 hbox hb; have GR : Aside0 (w.heap.size ≤ gr) := Aside0.mk (by rw [hg]; exact below_size HB.out); have BRR := Aside0.mk hbox; have NEBK := Aside0.mk (Nat.ne_of_lt (Nat.lt_of_lt_of_eq (blk_lt BK.out) hg.symm)); have NEBO := Aside0.mk (Nat.ne_of_lt (Nat.lt_of_lt_of_eq (blk_lt BO.out) hg.symm)); have NEBP := Aside0.mk (Nat.ne_of_lt (Nat.lt_of_lt_of_eq (blk_lt BP.out) hg.symm)); have NEBS := Aside0.mk (Nat.ne_of_lt (Nat.lt_of_lt_of_eq (blk_lt BS.out) hg.symm)); have NEBR := Aside0.mk (Nat.ne_of_lt (Nat.lt_of_lt_of_eq (blk_lt BR.out) hg.symm)); have NEB2 := Aside0.mk (Nat.ne_of_lt (Nat.lt_of_lt_of_eq (blk_lt B2.out) hg.symm)); have m0_ := Aside0.mk (blk_below BK.out hb); have m1_ := Aside0.mk (blk_below BO.out hb); have m2_ := Aside0.mk (blk_below BP.out hb); have m3_ := Aside0.mk (blk_below BS.out hb); have m4_ := Aside0.mk (blk_below BR.out hb); have m5_ := Aside0.mk (blk_below B2.out hb); clear BK BO BP BS BR B2; have BK := m0_; have BO := m1_; have BP := m2_; have BS := m3_; have BR := m4_; have B2 := m5_; clear m0_ m1_ m2_ m3_ m4_ m5_; have n0_ := Aside0.mk (below_step HB.out hb); clear HB; have HB := n0_; clear n0_; clear hbox hb hg)
            | ((with_reducible refine gate_store (t := 36) (p := 6) rfl ?_); refine faultplan_Plan.st (w0 := w) 36 rfl rfl rfl rfl rfl BRR.out (by kernel_rfl) rfl (by simp [Value.oneCell']) HB.out GR.out ?_; intro w8 hz hb2 hk; clear BRR HB; have BRR := Aside0.mk hz; have HB := Aside0.mk hb2; have m0_ := Aside0.mk (hk _ _ NEBK.out BK.out); have m1_ := Aside0.mk (hk _ _ NEBO.out BO.out); have m2_ := Aside0.mk (hk _ _ NEBP.out BP.out); have m3_ := Aside0.mk (hk _ _ NEBS.out BS.out); have m4_ := Aside0.mk (hk _ _ NEBR.out BR.out); have m5_ := Aside0.mk (hk _ _ NEB2.out B2.out); clear BK BO BP BS BR B2; have BK := m0_; have BO := m1_; have BP := m2_; have BS := m3_; have BR := m4_; have B2 := m5_; clear m0_ m1_ m2_ m3_ m4_ m5_; clear hz hb2 hk GR NEBK NEBO NEBP NEBS NEBR NEB2; have hcr : w8.cell? ⟨gr, 0, none⟩ = some (.func (.func 34) #[] #[.pointer (some ⟨G, 0, none⟩), .pointer (some ⟨O, 0, none⟩)]) := (blk_cell BRR.out 0).trans rfl)
            | (go_at_call 34; (with_reducible refine (faultplan_rules.t2 G O a0_5 o _ ((blk_cell BK.out 5).trans rfl) ((blk_cell BO.out 0).trans rfl)).mono ?_); rintro e9 w9 ⟨rfl, hb⟩; rw [HT2.out]; have mr_ := Aside0.mk (blk_below BRR.out hb); clear BRR hcr; have BRR := mr_; clear mr_; have m0_ := Aside0.mk (blk_below BK.out hb); have m1_ := Aside0.mk (blk_below BO.out hb); have m2_ := Aside0.mk (blk_below BP.out hb); have m3_ := Aside0.mk (blk_below BS.out hb); have m4_ := Aside0.mk (blk_below BR.out hb); have m5_ := Aside0.mk (blk_below B2.out hb); clear BK BO BP BS BR B2; have BK := m0_; have BO := m1_; have BP := m2_; have BS := m3_; have BR := m4_; have B2 := m5_; clear m0_ m1_ m2_ m3_ m4_ m5_; have n0_ := Aside0.mk (below_step HB.out hb); clear HB; have HB := n0_; clear n0_; clear hb)
            | ((with_reducible refine gate_dst (N := 24) rfl ?_); refine Kd.event_run (v := .agg #[.int .i64 1, .int .i64 14, .int .i64 0, .int .i64 0, .int .i64 0]) rfl (faultplan_Plan.ldm 28 (.tmp 23) 1 [.int .i64 1, .int .i64 14, .int .i64 0, .int .i64 0, .int .i64 0] _ rfl rfl BRR.out rfl hu28 (by kernel_rfl)) ?_)
            | ((with_reducible refine gate_store (t := 28) (p := 2) rfl ?_); refine faultplan_Plan.st (w0 := w) 28 rfl rfl rfl rfl rfl B2.out (by kernel_rfl) rfl (by simp [Value.oneCell']) HB.out G2.out ?_; intro wz hz hb hk; clear B2 HB; have B2 := Aside0.mk hz; have HB := Aside0.mk hb; clear hz hb hk))
        have h0 := HPK.out
        unfold faultplan_Plan.pick at h0
        rw [if_neg (Bool.eq_false_iff.mp HT0.out), if_neg (Bool.eq_false_iff.mp HT1.out), if_pos HT2.out] at h0
        simp only [Option.some.injEq, Prod.mk.injEq] at h0
        obtain ⟨rfl, rfl, rfl, rfl, rfl, rfl⟩ := h0
        refine bodyPost_ret (results_ct rfl _ _ g2 28 #[.int .i64 1, .int .i64 14, .int .i64 0, .int .i64 0, .int .i64 0] (0, 0) _ rfl B2.out hu28 rfl (by kernel_rfl)) rfl ?_
        exact ⟨rfl, HB.out⟩
      have HT2 := Aside0.mk ht
      clear ht
      rw [rounds_succ]
      go_wp2_with (first
            | ((with_reducible refine gate_dst (N := 19) rfl ?_); refine Kd.event_run (v := .agg #[.func (.func 34) #[] #[.pointer (some ⟨G, 0, none⟩), .pointer (some ⟨O, 0, none⟩)], .int .i64 1, .int .i64 14, .int .i64 0, .int .i64 0, .int .i64 0]) rfl (faultplan_Plan.ldm 36 (.tmp 18) 12 [.func (.func 34) #[] #[.pointer (some ⟨G, 0, none⟩), .pointer (some ⟨O, 0, none⟩)], .int .i64 1, .int .i64 14, .int .i64 0, .int .i64 0, .int .i64 0] _ rfl rfl BR.out rfl hu36 (by kernel_rfl)) ?_)
            | ((with_reducible refine gate_dst (N := 6) rfl ?_); refine box_event ?hg (N := 6) ?hd (cs := #[.nilFunc, .int .i64 0, .int .i64 0, .int .i64 0, .int .i64 0, .int .i64 0]) (t := 36) ?hr ?_; (case hd => rfl); (case hg => rfl); (case hr => first | (go_simp; done) | (go_simp; rfl)); intro gr hg w7 hbox hb; have GR : Aside0 (w.heap.size ≤ gr) := Aside0.mk (by rw [hg]; exact below_size HB.out); have BRR := Aside0.mk hbox; have NEBK := Aside0.mk (Nat.ne_of_lt (Nat.lt_of_lt_of_eq (blk_lt BK.out) hg.symm)); have NEBO := Aside0.mk (Nat.ne_of_lt (Nat.lt_of_lt_of_eq (blk_lt BO.out) hg.symm)); have NEBP := Aside0.mk (Nat.ne_of_lt (Nat.lt_of_lt_of_eq (blk_lt BP.out) hg.symm)); have NEBS := Aside0.mk (Nat.ne_of_lt (Nat.lt_of_lt_of_eq (blk_lt BS.out) hg.symm)); have NEBR := Aside0.mk (Nat.ne_of_lt (Nat.lt_of_lt_of_eq (blk_lt BR.out) hg.symm)); have NEB2 := Aside0.mk (Nat.ne_of_lt (Nat.lt_of_lt_of_eq (blk_lt B2.out) hg.symm)); have m0_ := Aside0.mk (blk_below BK.out hb); have m1_ := Aside0.mk (blk_below BO.out hb); have m2_ := Aside0.mk (blk_below BP.out hb); have m3_ := Aside0.mk (blk_below BS.out hb); have m4_ := Aside0.mk (blk_below BR.out hb); have m5_ := Aside0.mk (blk_below B2.out hb); clear BK BO BP BS BR B2; have BK := m0_; have BO := m1_; have BP := m2_; have BS := m3_; have BR := m4_; have B2 := m5_; clear m0_ m1_ m2_ m3_ m4_ m5_; have n0_ := Aside0.mk (below_step HB.out hb); clear HB; have HB := n0_; clear n0_; clear hbox hb hg)
            | ((with_reducible refine gate_store (t := 36) (p := 6) rfl ?_); refine faultplan_Plan.st (w0 := w) 36 rfl rfl rfl rfl rfl BRR.out (by kernel_rfl) rfl (by simp [Value.oneCell']) HB.out GR.out ?_; intro w8 hz hb2 hk; clear BRR HB; have BRR := Aside0.mk hz; have HB := Aside0.mk hb2; have m0_ := Aside0.mk (hk _ _ NEBK.out BK.out); have m1_ := Aside0.mk (hk _ _ NEBO.out BO.out); have m2_ := Aside0.mk (hk _ _ NEBP.out BP.out); have m3_ := Aside0.mk (hk _ _ NEBS.out BS.out); have m4_ := Aside0.mk (hk _ _ NEBR.out BR.out); have m5_ := Aside0.mk (hk _ _ NEB2.out B2.out); clear BK BO BP BS BR B2; have BK := m0_; have BO := m1_; have BP := m2_; have BS := m3_; have BR := m4_; have B2 := m5_; clear m0_ m1_ m2_ m3_ m4_ m5_; clear hz hb2 hk GR NEBK NEBO NEBP NEBS NEBR NEB2; have hcr : w8.cell? ⟨gr, 0, none⟩ = some (.func (.func 34) #[] #[.pointer (some ⟨G, 0, none⟩), .pointer (some ⟨O, 0, none⟩)]) := (blk_cell BRR.out 0).trans rfl)
            | (go_at_call 34; (with_reducible refine (faultplan_rules.t2 G O a0_5 o _ ((blk_cell BK.out 5).trans rfl) ((blk_cell BO.out 0).trans rfl)).mono ?_); rintro e9 w9 ⟨rfl, hb⟩; rw [HT2.out]; have mr_ := Aside0.mk (blk_below BRR.out hb); clear BRR hcr; have BRR := mr_; clear mr_; have m0_ := Aside0.mk (blk_below BK.out hb); have m1_ := Aside0.mk (blk_below BO.out hb); have m2_ := Aside0.mk (blk_below BP.out hb); have m3_ := Aside0.mk (blk_below BS.out hb); have m4_ := Aside0.mk (blk_below BR.out hb); have m5_ := Aside0.mk (blk_below B2.out hb); clear BK BO BP BS BR B2; have BK := m0_; have BO := m1_; have BP := m2_; have BS := m3_; have BR := m4_; have B2 := m5_; clear m0_ m1_ m2_ m3_ m4_ m5_; have n0_ := Aside0.mk (below_step HB.out hb); clear HB; have HB := n0_; clear n0_; clear hb))
      clear BRR
      rcases Bool.eq_false_or_eq_true ((p && (!a0_0 || a0_8))) with ht | ht
      · have HT3 := Aside0.mk ht
        clear ht
        rw [rounds_succ]
        go_wp2_with (first
            | ((with_reducible refine gate_dst (N := 19) rfl ?_); refine Kd.event_run (v := .agg #[.func (.func 35) #[] #[.pointer (some ⟨P, 0, none⟩), .pointer (some ⟨G, 0, none⟩)], .int .i64 0, .int .i64 0, .int .i64 0, .int .i64 0, .int .i64 0]) rfl (faultplan_Plan.ldm 36 (.tmp 18) 18 [.func (.func 35) #[] #[.pointer (some ⟨P, 0, none⟩), .pointer (some ⟨G, 0, none⟩)], .int .i64 0, .int .i64 0, .int .i64 0, .int .i64 0, .int .i64 0] _ rfl rfl BR.out rfl hu36 (by kernel_rfl)) ?_)
            | ((with_reducible refine gate_dst (N := 6) rfl ?_); refine box_event ?hg (N := 6) ?hd (cs := #[.nilFunc, .int .i64 0, .int .i64 0, .int .i64 0, .int .i64 0, .int .i64 0]) (t := 36) ?hr ?_; (case hd => rfl); (case hg => rfl); (case hr => first | (go_simp; done) | (go_simp; rfl)); intro gr hg w7 hbox hb; have GR : Aside0 (w.heap.size ≤ gr) := Aside0.mk (by rw [hg]; exact below_size HB.out); have BRR := Aside0.mk hbox; have NEBK := Aside0.mk (Nat.ne_of_lt (Nat.lt_of_lt_of_eq (blk_lt BK.out) hg.symm)); have NEBO := Aside0.mk (Nat.ne_of_lt (Nat.lt_of_lt_of_eq (blk_lt BO.out) hg.symm)); have NEBP := Aside0.mk (Nat.ne_of_lt (Nat.lt_of_lt_of_eq (blk_lt BP.out) hg.symm)); have NEBS := Aside0.mk (Nat.ne_of_lt (Nat.lt_of_lt_of_eq (blk_lt BS.out) hg.symm)); have NEBR := Aside0.mk (Nat.ne_of_lt (Nat.lt_of_lt_of_eq (blk_lt BR.out) hg.symm)); have NEB2 := Aside0.mk (Nat.ne_of_lt (Nat.lt_of_lt_of_eq (blk_lt B2.out) hg.symm)); have m0_ := Aside0.mk (blk_below BK.out hb); have m1_ := Aside0.mk (blk_below BO.out hb); have m2_ := Aside0.mk (blk_below BP.out hb); have m3_ := Aside0.mk (blk_below BS.out hb); have m4_ := Aside0.mk (blk_below BR.out hb); have m5_ := Aside0.mk (blk_below B2.out hb); clear BK BO BP BS BR B2; have BK := m0_; have BO := m1_; have BP := m2_; have BS := m3_; have BR := m4_; have B2 := m5_; clear m0_ m1_ m2_ m3_ m4_ m5_; have n0_ := Aside0.mk (below_step HB.out hb); clear HB; have HB := n0_; clear n0_; clear hbox hb hg)
            | ((with_reducible refine gate_store (t := 36) (p := 6) rfl ?_); refine faultplan_Plan.st (w0 := w) 36 rfl rfl rfl rfl rfl BRR.out (by kernel_rfl) rfl (by simp [Value.oneCell']) HB.out GR.out ?_; intro w8 hz hb2 hk; clear BRR HB; have BRR := Aside0.mk hz; have HB := Aside0.mk hb2; have m0_ := Aside0.mk (hk _ _ NEBK.out BK.out); have m1_ := Aside0.mk (hk _ _ NEBO.out BO.out); have m2_ := Aside0.mk (hk _ _ NEBP.out BP.out); have m3_ := Aside0.mk (hk _ _ NEBS.out BS.out); have m4_ := Aside0.mk (hk _ _ NEBR.out BR.out); have m5_ := Aside0.mk (hk _ _ NEB2.out B2.out); clear BK BO BP BS BR B2; have BK := m0_; have BO := m1_; have BP := m2_; have BS := m3_; have BR := m4_; have B2 := m5_; clear m0_ m1_ m2_ m3_ m4_ m5_; clear hz hb2 hk GR NEBK NEBO NEBP NEBS NEBR NEB2; have hcr : w8.cell? ⟨gr, 0, none⟩ = some (.func (.func 35) #[] #[.pointer (some ⟨P, 0, none⟩), .pointer (some ⟨G, 0, none⟩)]) := (blk_cell BRR.out 0).trans rfl)
            | (go_at_call 35; (with_reducible refine (faultplan_rules.t3 P G a0_0 a0_8 p _ ((blk_cell BP.out 0).trans rfl) ((blk_cell BK.out 0).trans rfl) ((blk_cell BK.out 8).trans rfl)).mono ?_); rintro e9 w9 ⟨rfl, hb⟩; rw [HT3.out]; have mr_ := Aside0.mk (blk_below BRR.out hb); clear BRR hcr; have BRR := mr_; clear mr_; have m0_ := Aside0.mk (blk_below BK.out hb); have m1_ := Aside0.mk (blk_below BO.out hb); have m2_ := Aside0.mk (blk_below BP.out hb); have m3_ := Aside0.mk (blk_below BS.out hb); have m4_ := Aside0.mk (blk_below BR.out hb); have m5_ := Aside0.mk (blk_below B2.out hb); clear BK BO BP BS BR B2; have BK := m0_; have BO := m1_; have BP := m2_; have BS := m3_; have BR := m4_; have B2 := m5_; clear m0_ m1_ m2_ m3_ m4_ m5_; have n0_ := Aside0.mk (below_step HB.out hb); clear HB; have HB := n0_; clear n0_; clear hb)
            | ((with_reducible refine gate_dst (N := 24) rfl ?_); refine Kd.event_run (v := .agg #[.int .i64 0, .int .i64 0, .int .i64 0, .int .i64 0, .int .i64 0]) rfl (faultplan_Plan.ldm 28 (.tmp 23) 1 [.int .i64 0, .int .i64 0, .int .i64 0, .int .i64 0, .int .i64 0] _ rfl rfl BRR.out rfl hu28 (by kernel_rfl)) ?_)
            | ((with_reducible refine gate_store (t := 28) (p := 2) rfl ?_); refine faultplan_Plan.st (w0 := w) 28 rfl rfl rfl rfl rfl B2.out (by kernel_rfl) rfl (by simp [Value.oneCell']) HB.out G2.out ?_; intro wz hz hb hk; clear B2 HB; have B2 := Aside0.mk hz; have HB := Aside0.mk hb; clear hz hb hk))
        have h0 := HPK.out
        unfold faultplan_Plan.pick at h0
        rw [if_neg (Bool.eq_false_iff.mp HT0.out), if_neg (Bool.eq_false_iff.mp HT1.out), if_neg (Bool.eq_false_iff.mp HT2.out), if_pos HT3.out] at h0
        simp only [Option.some.injEq, Prod.mk.injEq] at h0
        obtain ⟨rfl, rfl, rfl, rfl, rfl, rfl⟩ := h0
        refine bodyPost_ret (results_ct rfl _ _ g2 28 #[.int .i64 0, .int .i64 0, .int .i64 0, .int .i64 0, .int .i64 0] (0, 0) _ rfl B2.out hu28 rfl (by kernel_rfl)) rfl ?_
        exact ⟨rfl, HB.out⟩
      have HT3 := Aside0.mk ht
      clear ht
      rw [rounds_succ]
      go_wp2_with (first
            | ((with_reducible refine gate_dst (N := 19) rfl ?_); refine Kd.event_run (v := .agg #[.func (.func 35) #[] #[.pointer (some ⟨P, 0, none⟩), .pointer (some ⟨G, 0, none⟩)], .int .i64 0, .int .i64 0, .int .i64 0, .int .i64 0, .int .i64 0]) rfl (faultplan_Plan.ldm 36 (.tmp 18) 18 [.func (.func 35) #[] #[.pointer (some ⟨P, 0, none⟩), .pointer (some ⟨G, 0, none⟩)], .int .i64 0, .int .i64 0, .int .i64 0, .int .i64 0, .int .i64 0] _ rfl rfl BR.out rfl hu36 (by kernel_rfl)) ?_)
            | ((with_reducible refine gate_dst (N := 6) rfl ?_); refine box_event ?hg (N := 6) ?hd (cs := #[.nilFunc, .int .i64 0, .int .i64 0, .int .i64 0, .int .i64 0, .int .i64 0]) (t := 36) ?hr ?_; (case hd => rfl); (case hg => rfl); (case hr => first | (go_simp; done) | (go_simp; rfl)); intro gr hg w7 hbox hb; have GR : Aside0 (w.heap.size ≤ gr) := Aside0.mk (by rw [hg]; exact below_size HB.out); have BRR := Aside0.mk hbox; have NEBK := Aside0.mk (Nat.ne_of_lt (Nat.lt_of_lt_of_eq (blk_lt BK.out) hg.symm)); have NEBO := Aside0.mk (Nat.ne_of_lt (Nat.lt_of_lt_of_eq (blk_lt BO.out) hg.symm)); have NEBP := Aside0.mk (Nat.ne_of_lt (Nat.lt_of_lt_of_eq (blk_lt BP.out) hg.symm)); have NEBS := Aside0.mk (Nat.ne_of_lt (Nat.lt_of_lt_of_eq (blk_lt BS.out) hg.symm)); have NEBR := Aside0.mk (Nat.ne_of_lt (Nat.lt_of_lt_of_eq (blk_lt BR.out) hg.symm)); have NEB2 := Aside0.mk (Nat.ne_of_lt (Nat.lt_of_lt_of_eq (blk_lt B2.out) hg.symm)); have m0_ := Aside0.mk (blk_below BK.out hb); have m1_ := Aside0.mk (blk_below BO.out hb); have m2_ := Aside0.mk (blk_below BP.out hb); have m3_ := Aside0.mk (blk_below BS.out hb); have m4_ := Aside0.mk (blk_below BR.out hb); have m5_ := Aside0.mk (blk_below B2.out hb); clear BK BO BP BS BR B2; have BK := m0_; have BO := m1_; have BP := m2_; have BS := m3_; have BR := m4_; have B2 := m5_; clear m0_ m1_ m2_ m3_ m4_ m5_; have n0_ := Aside0.mk (below_step HB.out hb); clear HB; have HB := n0_; clear n0_; clear hbox hb hg)
            | ((with_reducible refine gate_store (t := 36) (p := 6) rfl ?_); refine faultplan_Plan.st (w0 := w) 36 rfl rfl rfl rfl rfl BRR.out (by kernel_rfl) rfl (by simp [Value.oneCell']) HB.out GR.out ?_; intro w8 hz hb2 hk; clear BRR HB; have BRR := Aside0.mk hz; have HB := Aside0.mk hb2; have m0_ := Aside0.mk (hk _ _ NEBK.out BK.out); have m1_ := Aside0.mk (hk _ _ NEBO.out BO.out); have m2_ := Aside0.mk (hk _ _ NEBP.out BP.out); have m3_ := Aside0.mk (hk _ _ NEBS.out BS.out); have m4_ := Aside0.mk (hk _ _ NEBR.out BR.out); have m5_ := Aside0.mk (hk _ _ NEB2.out B2.out); clear BK BO BP BS BR B2; have BK := m0_; have BO := m1_; have BP := m2_; have BS := m3_; have BR := m4_; have B2 := m5_; clear m0_ m1_ m2_ m3_ m4_ m5_; clear hz hb2 hk GR NEBK NEBO NEBP NEBS NEBR NEB2; have hcr : w8.cell? ⟨gr, 0, none⟩ = some (.func (.func 35) #[] #[.pointer (some ⟨P, 0, none⟩), .pointer (some ⟨G, 0, none⟩)]) := (blk_cell BRR.out 0).trans rfl)
            | (go_at_call 35; (with_reducible refine (faultplan_rules.t3 P G a0_0 a0_8 p _ ((blk_cell BP.out 0).trans rfl) ((blk_cell BK.out 0).trans rfl) ((blk_cell BK.out 8).trans rfl)).mono ?_); rintro e9 w9 ⟨rfl, hb⟩; rw [HT3.out]; have mr_ := Aside0.mk (blk_below BRR.out hb); clear BRR hcr; have BRR := mr_; clear mr_; have m0_ := Aside0.mk (blk_below BK.out hb); have m1_ := Aside0.mk (blk_below BO.out hb); have m2_ := Aside0.mk (blk_below BP.out hb); have m3_ := Aside0.mk (blk_below BS.out hb); have m4_ := Aside0.mk (blk_below BR.out hb); have m5_ := Aside0.mk (blk_below B2.out hb); clear BK BO BP BS BR B2; have BK := m0_; have BO := m1_; have BP := m2_; have BS := m3_; have BR := m4_; have B2 := m5_; clear m0_ m1_ m2_ m3_ m4_ m5_; have n0_ := Aside0.mk (below_step HB.out hb); clear HB; have HB := n0_; clear n0_; clear hb))
      clear BRR
      rcases Bool.eq_false_or_eq_true ((a0_6 && !o)) with ht | ht
      · have HT4 := Aside0.mk ht
        clear ht
        rw [rounds_succ]
        go_wp2_with (first
            | ((with_reducible refine gate_dst (N := 19) rfl ?_); refine Kd.event_run (v := .agg #[.func (.func 36) #[] #[.pointer (some ⟨G, 0, none⟩), .pointer (some ⟨O, 0, none⟩)], .int .i64 2, .int .i64 0, .int .i64 4, .int .i64 0, .int .i64 0]) rfl (faultplan_Plan.ldm 36 (.tmp 18) 24 [.func (.func 36) #[] #[.pointer (some ⟨G, 0, none⟩), .pointer (some ⟨O, 0, none⟩)], .int .i64 2, .int .i64 0, .int .i64 4, .int .i64 0, .int .i64 0] _ rfl rfl BR.out rfl hu36 (by kernel_rfl)) ?_)
            | ((with_reducible refine gate_dst (N := 6) rfl ?_); refine box_event ?hg (N := 6) ?hd (cs := #[.nilFunc, .int .i64 0, .int .i64 0, .int .i64 0, .int .i64 0, .int .i64 0]) (t := 36) ?hr ?_; (case hd => rfl); (case hg => rfl); (case hr => first | (go_simp; done) | (go_simp; rfl)); intro gr hg w7 hbox hb; have GR : Aside0 (w.heap.size ≤ gr) := Aside0.mk (by rw [hg]; exact below_size HB.out); have BRR := Aside0.mk hbox; have NEBK := Aside0.mk (Nat.ne_of_lt (Nat.lt_of_lt_of_eq (blk_lt BK.out) hg.symm)); have NEBO := Aside0.mk (Nat.ne_of_lt (Nat.lt_of_lt_of_eq (blk_lt BO.out) hg.symm)); have NEBP := Aside0.mk (Nat.ne_of_lt (Nat.lt_of_lt_of_eq (blk_lt BP.out) hg.symm)); have NEBS := Aside0.mk (Nat.ne_of_lt (Nat.lt_of_lt_of_eq (blk_lt BS.out) hg.symm)); have NEBR := Aside0.mk (Nat.ne_of_lt (Nat.lt_of_lt_of_eq (blk_lt BR.out) hg.symm)); have NEB2 := Aside0.mk (Nat.ne_of_lt (Nat.lt_of_lt_of_eq (blk_lt B2.out) hg.symm)); have m0_ := Aside0.mk (blk_below BK.out hb); have m1_ := Aside0.mk (blk_below BO.out hb); have m2_ := Aside0.mk (blk_below BP.out hb); have m3_ := Aside0.mk (blk_below BS.out hb); have m4_ := Aside0.mk (blk_below BR.out hb); have m5_ := Aside0.mk (blk_below B2.out hb); clear BK BO BP BS BR B2; have BK := m0_; have BO := m1_; have BP := m2_; have BS := m3_; have BR := m4_; have B2 := m5_; clear m0_ m1_ m2_ m3_ m4_ m5_; have n0_ := Aside0.mk (below_step HB.out hb); clear HB; have HB := n0_; clear n0_; clear hbox hb hg)
            | ((with_reducible refine gate_store (t := 36) (p := 6) rfl ?_); refine faultplan_Plan.st (w0 := w) 36 rfl rfl rfl rfl rfl BRR.out (by kernel_rfl) rfl (by simp [Value.oneCell']) HB.out GR.out ?_; intro w8 hz hb2 hk; clear BRR HB; have BRR := Aside0.mk hz; have HB := Aside0.mk hb2; have m0_ := Aside0.mk (hk _ _ NEBK.out BK.out); have m1_ := Aside0.mk (hk _ _ NEBO.out BO.out); have m2_ := Aside0.mk (hk _ _ NEBP.out BP.out); have m3_ := Aside0.mk (hk _ _ NEBS.out BS.out); have m4_ := Aside0.mk (hk _ _ NEBR.out BR.out); have m5_ := Aside0.mk (hk _ _ NEB2.out B2.out); clear BK BO BP BS BR B2; have BK := m0_; have BO := m1_; have BP := m2_; have BS := m3_; have BR := m4_; have B2 := m5_; clear m0_ m1_ m2_ m3_ m4_ m5_; clear hz hb2 hk GR NEBK NEBO NEBP NEBS NEBR NEB2; have hcr : w8.cell? ⟨gr, 0, none⟩ = some (.func (.func 36) #[] #[.pointer (some ⟨G, 0, none⟩), .pointer (some ⟨O, 0, none⟩)]) := (blk_cell BRR.out 0).trans rfl)
            | (go_at_call 36; (with_reducible refine (faultplan_rules.t4 G O a0_6 o _ ((blk_cell BK.out 6).trans rfl) ((blk_cell BO.out 0).trans rfl)).mono ?_); rintro e9 w9 ⟨rfl, hb⟩; rw [HT4.out]; have mr_ := Aside0.mk (blk_below BRR.out hb); clear BRR hcr; have BRR := mr_; clear mr_; have m0_ := Aside0.mk (blk_below BK.out hb); have m1_ := Aside0.mk (blk_below BO.out hb); have m2_ := Aside0.mk (blk_below BP.out hb); have m3_ := Aside0.mk (blk_below BS.out hb); have m4_ := Aside0.mk (blk_below BR.out hb); have m5_ := Aside0.mk (blk_below B2.out hb); clear BK BO BP BS BR B2; have BK := m0_; have BO := m1_; have BP := m2_; have BS := m3_; have BR := m4_; have B2 := m5_; clear m0_ m1_ m2_ m3_ m4_ m5_; have n0_ := Aside0.mk (below_step HB.out hb); clear HB; have HB := n0_; clear n0_; clear hb)
            | ((with_reducible refine gate_dst (N := 24) rfl ?_); refine Kd.event_run (v := .agg #[.int .i64 2, .int .i64 0, .int .i64 4, .int .i64 0, .int .i64 0]) rfl (faultplan_Plan.ldm 28 (.tmp 23) 1 [.int .i64 2, .int .i64 0, .int .i64 4, .int .i64 0, .int .i64 0] _ rfl rfl BRR.out rfl hu28 (by kernel_rfl)) ?_)
            | ((with_reducible refine gate_store (t := 28) (p := 2) rfl ?_); refine faultplan_Plan.st (w0 := w) 28 rfl rfl rfl rfl rfl B2.out (by kernel_rfl) rfl (by simp [Value.oneCell']) HB.out G2.out ?_; intro wz hz hb hk; clear B2 HB; have B2 := Aside0.mk hz; have HB := Aside0.mk hb; clear hz hb hk))
        have h0 := HPK.out
        unfold faultplan_Plan.pick at h0
        rw [if_neg (Bool.eq_false_iff.mp HT0.out), if_neg (Bool.eq_false_iff.mp HT1.out), if_neg (Bool.eq_false_iff.mp HT2.out), if_neg (Bool.eq_false_iff.mp HT3.out), if_pos HT4.out] at h0
        simp only [Option.some.injEq, Prod.mk.injEq] at h0
        obtain ⟨rfl, rfl, rfl, rfl, rfl, rfl⟩ := h0
        refine bodyPost_ret (results_ct rfl _ _ g2 28 #[.int .i64 2, .int .i64 0, .int .i64 4, .int .i64 0, .int .i64 0] (0, 0) _ rfl B2.out hu28 rfl (by kernel_rfl)) rfl ?_
        exact ⟨rfl, HB.out⟩
      have HT4 := Aside0.mk ht
      clear ht
      rw [rounds_succ]
      go_wp2_with (first
            | ((with_reducible refine gate_dst (N := 19) rfl ?_); refine Kd.event_run (v := .agg #[.func (.func 36) #[] #[.pointer (some ⟨G, 0, none⟩), .pointer (some ⟨O, 0, none⟩)], .int .i64 2, .int .i64 0, .int .i64 4, .int .i64 0, .int .i64 0]) rfl (faultplan_Plan.ldm 36 (.tmp 18) 24 [.func (.func 36) #[] #[.pointer (some ⟨G, 0, none⟩), .pointer (some ⟨O, 0, none⟩)], .int .i64 2, .int .i64 0, .int .i64 4, .int .i64 0, .int .i64 0] _ rfl rfl BR.out rfl hu36 (by kernel_rfl)) ?_)
            | ((with_reducible refine gate_dst (N := 6) rfl ?_); refine box_event ?hg (N := 6) ?hd (cs := #[.nilFunc, .int .i64 0, .int .i64 0, .int .i64 0, .int .i64 0, .int .i64 0]) (t := 36) ?hr ?_; (case hd => rfl); (case hg => rfl); (case hr => first | (go_simp; done) | (go_simp; rfl)); intro gr hg w7 hbox hb; have GR : Aside0 (w.heap.size ≤ gr) := Aside0.mk (by rw [hg]; exact below_size HB.out); have BRR := Aside0.mk hbox; have NEBK := Aside0.mk (Nat.ne_of_lt (Nat.lt_of_lt_of_eq (blk_lt BK.out) hg.symm)); have NEBO := Aside0.mk (Nat.ne_of_lt (Nat.lt_of_lt_of_eq (blk_lt BO.out) hg.symm)); have NEBP := Aside0.mk (Nat.ne_of_lt (Nat.lt_of_lt_of_eq (blk_lt BP.out) hg.symm)); have NEBS := Aside0.mk (Nat.ne_of_lt (Nat.lt_of_lt_of_eq (blk_lt BS.out) hg.symm)); have NEBR := Aside0.mk (Nat.ne_of_lt (Nat.lt_of_lt_of_eq (blk_lt BR.out) hg.symm)); have NEB2 := Aside0.mk (Nat.ne_of_lt (Nat.lt_of_lt_of_eq (blk_lt B2.out) hg.symm)); have m0_ := Aside0.mk (blk_below BK.out hb); have m1_ := Aside0.mk (blk_below BO.out hb); have m2_ := Aside0.mk (blk_below BP.out hb); have m3_ := Aside0.mk (blk_below BS.out hb); have m4_ := Aside0.mk (blk_below BR.out hb); have m5_ := Aside0.mk (blk_below B2.out hb); clear BK BO BP BS BR B2; have BK := m0_; have BO := m1_; have BP := m2_; have BS := m3_; have BR := m4_; have B2 := m5_; clear m0_ m1_ m2_ m3_ m4_ m5_; have n0_ := Aside0.mk (below_step HB.out hb); clear HB; have HB := n0_; clear n0_; clear hbox hb hg)
            | ((with_reducible refine gate_store (t := 36) (p := 6) rfl ?_); refine faultplan_Plan.st (w0 := w) 36 rfl rfl rfl rfl rfl BRR.out (by kernel_rfl) rfl (by simp [Value.oneCell']) HB.out GR.out ?_; intro w8 hz hb2 hk; clear BRR HB; have BRR := Aside0.mk hz; have HB := Aside0.mk hb2; have m0_ := Aside0.mk (hk _ _ NEBK.out BK.out); have m1_ := Aside0.mk (hk _ _ NEBO.out BO.out); have m2_ := Aside0.mk (hk _ _ NEBP.out BP.out); have m3_ := Aside0.mk (hk _ _ NEBS.out BS.out); have m4_ := Aside0.mk (hk _ _ NEBR.out BR.out); have m5_ := Aside0.mk (hk _ _ NEB2.out B2.out); clear BK BO BP BS BR B2; have BK := m0_; have BO := m1_; have BP := m2_; have BS := m3_; have BR := m4_; have B2 := m5_; clear m0_ m1_ m2_ m3_ m4_ m5_; clear hz hb2 hk GR NEBK NEBO NEBP NEBS NEBR NEB2; have hcr : w8.cell? ⟨gr, 0, none⟩ = some (.func (.func 36) #[] #[.pointer (some ⟨G, 0, none⟩), .pointer (some ⟨O, 0, none⟩)]) := (blk_cell BRR.out 0).trans rfl)
            | (go_at_call 36; (with_reducible refine (faultplan_rules.t4 G O a0_6 o _ ((blk_cell BK.out 6).trans rfl) ((blk_cell BO.out 0).trans rfl)).mono ?_); rintro e9 w9 ⟨rfl, hb⟩; rw [HT4.out]; have mr_ := Aside0.mk (blk_below BRR.out hb); clear BRR hcr; have BRR := mr_; clear mr_; have m0_ := Aside0.mk (blk_below BK.out hb); have m1_ := Aside0.mk (blk_below BO.out hb); have m2_ := Aside0.mk (blk_below BP.out hb); have m3_ := Aside0.mk (blk_below BS.out hb); have m4_ := Aside0.mk (blk_below BR.out hb); have m5_ := Aside0.mk (blk_below B2.out hb); clear BK BO BP BS BR B2; have BK := m0_; have BO := m1_; have BP := m2_; have BS := m3_; have BR := m4_; have B2 := m5_; clear m0_ m1_ m2_ m3_ m4_ m5_; have n0_ := Aside0.mk (below_step HB.out hb); clear HB; have HB := n0_; clear n0_; clear hb))
      clear BRR
      rcases Bool.eq_false_or_eq_true (a0_9) with ht | ht
      · have HT5 := Aside0.mk ht
        clear ht
        rw [rounds_succ]
        go_wp2_with (first
            | ((with_reducible refine gate_dst (N := 19) rfl ?_); refine Kd.event_run (v := .agg #[.func (.func 37) #[] #[.pointer (some ⟨G, 0, none⟩)], .int .i64 2, .int .i64 0, .int .i64 3, .int .i64 0, .int .i64 0]) rfl (faultplan_Plan.ldm 36 (.tmp 18) 30 [.func (.func 37) #[] #[.pointer (some ⟨G, 0, none⟩)], .int .i64 2, .int .i64 0, .int .i64 3, .int .i64 0, .int .i64 0] _ rfl rfl BR.out rfl hu36 (by kernel_rfl)) ?_)
            | ((with_reducible refine gate_dst (N := 6) rfl ?_); refine box_event ?hg (N := 6) ?hd (cs := #[.nilFunc, .int .i64 0, .int .i64 0, .int .i64 0, .int .i64 0, .int .i64 0]) (t := 36) ?hr ?_; (case hd => rfl); (case hg => rfl); (case hr => first | (go_simp; done) | (go_simp; rfl)); intro gr hg w7 hbox hb; have GR : Aside0 (w.heap.size ≤ gr) := Aside0.mk (by rw [hg]; exact below_size HB.out); have BRR := Aside0.mk hbox; have NEBK := Aside0.mk (Nat.ne_of_lt (Nat.lt_of_lt_of_eq (blk_lt BK.out) hg.symm)); have NEBO := Aside0.mk (Nat.ne_of_lt (Nat.lt_of_lt_of_eq (blk_lt BO.out) hg.symm)); have NEBP := Aside0.mk (Nat.ne_of_lt (Nat.lt_of_lt_of_eq (blk_lt BP.out) hg.symm)); have NEBS := Aside0.mk (Nat.ne_of_lt (Nat.lt_of_lt_of_eq (blk_lt BS.out) hg.symm)); have NEBR := Aside0.mk (Nat.ne_of_lt (Nat.lt_of_lt_of_eq (blk_lt BR.out) hg.symm)); have NEB2 := Aside0.mk (Nat.ne_of_lt (Nat.lt_of_lt_of_eq (blk_lt B2.out) hg.symm)); have m0_ := Aside0.mk (blk_below BK.out hb); have m1_ := Aside0.mk (blk_below BO.out hb); have m2_ := Aside0.mk (blk_below BP.out hb); have m3_ := Aside0.mk (blk_below BS.out hb); have m4_ := Aside0.mk (blk_below BR.out hb); have m5_ := Aside0.mk (blk_below B2.out hb); clear BK BO BP BS BR B2; have BK := m0_; have BO := m1_; have BP := m2_; have BS := m3_; have BR := m4_; have B2 := m5_; clear m0_ m1_ m2_ m3_ m4_ m5_; have n0_ := Aside0.mk (below_step HB.out hb); clear HB; have HB := n0_; clear n0_; clear hbox hb hg)
            | ((with_reducible refine gate_store (t := 36) (p := 6) rfl ?_); refine faultplan_Plan.st (w0 := w) 36 rfl rfl rfl rfl rfl BRR.out (by kernel_rfl) rfl (by simp [Value.oneCell']) HB.out GR.out ?_; intro w8 hz hb2 hk; clear BRR HB; have BRR := Aside0.mk hz; have HB := Aside0.mk hb2; have m0_ := Aside0.mk (hk _ _ NEBK.out BK.out); have m1_ := Aside0.mk (hk _ _ NEBO.out BO.out); have m2_ := Aside0.mk (hk _ _ NEBP.out BP.out); have m3_ := Aside0.mk (hk _ _ NEBS.out BS.out); have m4_ := Aside0.mk (hk _ _ NEBR.out BR.out); have m5_ := Aside0.mk (hk _ _ NEB2.out B2.out); clear BK BO BP BS BR B2; have BK := m0_; have BO := m1_; have BP := m2_; have BS := m3_; have BR := m4_; have B2 := m5_; clear m0_ m1_ m2_ m3_ m4_ m5_; clear hz hb2 hk GR NEBK NEBO NEBP NEBS NEBR NEB2; have hcr : w8.cell? ⟨gr, 0, none⟩ = some (.func (.func 37) #[] #[.pointer (some ⟨G, 0, none⟩)]) := (blk_cell BRR.out 0).trans rfl)
            | (go_at_call 37; (with_reducible refine (faultplan_rules.t5 G a0_9 _ ((blk_cell BK.out 9).trans rfl)).mono ?_); rintro e9 w9 ⟨rfl, hb⟩; rw [HT5.out]; have mr_ := Aside0.mk (blk_below BRR.out hb); clear BRR hcr; have BRR := mr_; clear mr_; have m0_ := Aside0.mk (blk_below BK.out hb); have m1_ := Aside0.mk (blk_below BO.out hb); have m2_ := Aside0.mk (blk_below BP.out hb); have m3_ := Aside0.mk (blk_below BS.out hb); have m4_ := Aside0.mk (blk_below BR.out hb); have m5_ := Aside0.mk (blk_below B2.out hb); clear BK BO BP BS BR B2; have BK := m0_; have BO := m1_; have BP := m2_; have BS := m3_; have BR := m4_; have B2 := m5_; clear m0_ m1_ m2_ m3_ m4_ m5_; have n0_ := Aside0.mk (below_step HB.out hb); clear HB; have HB := n0_; clear n0_; clear hb)
            | ((with_reducible refine gate_dst (N := 24) rfl ?_); refine Kd.event_run (v := .agg #[.int .i64 2, .int .i64 0, .int .i64 3, .int .i64 0, .int .i64 0]) rfl (faultplan_Plan.ldm 28 (.tmp 23) 1 [.int .i64 2, .int .i64 0, .int .i64 3, .int .i64 0, .int .i64 0] _ rfl rfl BRR.out rfl hu28 (by kernel_rfl)) ?_)
            | ((with_reducible refine gate_store (t := 28) (p := 2) rfl ?_); refine faultplan_Plan.st (w0 := w) 28 rfl rfl rfl rfl rfl B2.out (by kernel_rfl) rfl (by simp [Value.oneCell']) HB.out G2.out ?_; intro wz hz hb hk; clear B2 HB; have B2 := Aside0.mk hz; have HB := Aside0.mk hb; clear hz hb hk))
        have h0 := HPK.out
        unfold faultplan_Plan.pick at h0
        rw [if_neg (Bool.eq_false_iff.mp HT0.out), if_neg (Bool.eq_false_iff.mp HT1.out), if_neg (Bool.eq_false_iff.mp HT2.out), if_neg (Bool.eq_false_iff.mp HT3.out), if_neg (Bool.eq_false_iff.mp HT4.out), if_pos HT5.out] at h0
        simp only [Option.some.injEq, Prod.mk.injEq] at h0
        obtain ⟨rfl, rfl, rfl, rfl, rfl, rfl⟩ := h0
        refine bodyPost_ret (results_ct rfl _ _ g2 28 #[.int .i64 2, .int .i64 0, .int .i64 3, .int .i64 0, .int .i64 0] (0, 0) _ rfl B2.out hu28 rfl (by kernel_rfl)) rfl ?_
        exact ⟨rfl, HB.out⟩
      have HT5 := Aside0.mk ht
      clear ht
      rw [rounds_succ]
      go_wp2_with (first
            | ((with_reducible refine gate_dst (N := 19) rfl ?_); refine Kd.event_run (v := .agg #[.func (.func 37) #[] #[.pointer (some ⟨G, 0, none⟩)], .int .i64 2, .int .i64 0, .int .i64 3, .int .i64 0, .int .i64 0]) rfl (faultplan_Plan.ldm 36 (.tmp 18) 30 [.func (.func 37) #[] #[.pointer (some ⟨G, 0, none⟩)], .int .i64 2, .int .i64 0, .int .i64 3, .int .i64 0, .int .i64 0] _ rfl rfl BR.out rfl hu36 (by kernel_rfl)) ?_)
            | ((with_reducible refine gate_dst (N := 6) rfl ?_); refine box_event ?hg (N := 6) ?hd (cs := #[.nilFunc, .int .i64 0, .int .i64 0, .int .i64 0, .int .i64 0, .int .i64 0]) (t := 36) ?hr ?_; (case hd => rfl); (case hg => rfl); (case hr => first | (go_simp; done) | (go_simp; rfl)); intro gr hg w7 hbox hb; have GR : Aside0 (w.heap.size ≤ gr) := Aside0.mk (by rw [hg]; exact below_size HB.out); have BRR := Aside0.mk hbox; have NEBK := Aside0.mk (Nat.ne_of_lt (Nat.lt_of_lt_of_eq (blk_lt BK.out) hg.symm)); have NEBO := Aside0.mk (Nat.ne_of_lt (Nat.lt_of_lt_of_eq (blk_lt BO.out) hg.symm)); have NEBP := Aside0.mk (Nat.ne_of_lt (Nat.lt_of_lt_of_eq (blk_lt BP.out) hg.symm)); have NEBS := Aside0.mk (Nat.ne_of_lt (Nat.lt_of_lt_of_eq (blk_lt BS.out) hg.symm)); have NEBR := Aside0.mk (Nat.ne_of_lt (Nat.lt_of_lt_of_eq (blk_lt BR.out) hg.symm)); have NEB2 := Aside0.mk (Nat.ne_of_lt (Nat.lt_of_lt_of_eq (blk_lt B2.out) hg.symm)); have m0_ := Aside0.mk (blk_below BK.out hb); have m1_ := Aside0.mk (blk_below BO.out hb); have m2_ := Aside0.mk (blk_below BP.out hb); have m3_ := Aside0.mk (blk_below BS.out hb); have m4_ := Aside0.mk (blk_below BR.out hb); have m5_ := Aside0.mk (blk_below B2.out hb); clear BK BO BP BS BR B2; have BK := m0_; have BO := m1_; have BP := m2_; have BS := m3_; have BR := m4_; have B2 := m5_; clear m0_ m1_ m2_ m3_ m4_ m5_; have n0_ := Aside0.mk (below_step HB.out hb); clear HB; have HB := n0_; clear n0_; clear hbox hb hg)
            | ((with_reducible refine gate_store (t := 36) (p := 6) rfl ?_); refine faultplan_Plan.st (w0 := w) 36 rfl rfl rfl rfl rfl BRR.out (by kernel_rfl) rfl (by simp [Value.oneCell']) HB.out GR.out ?_; intro w8 hz hb2 hk; clear BRR HB; have BRR := Aside0.mk hz; have HB := Aside0.mk hb2; have m0_ := Aside0.mk (hk _ _ NEBK.out BK.out); have m1_ := Aside0.mk (hk _ _ NEBO.out BO.out); have m2_ := Aside0.mk (hk _ _ NEBP.out BP.out); have m3_ := Aside0.mk (hk _ _ NEBS.out BS.out); have m4_ := Aside0.mk (hk _ _ NEBR.out BR.out); have m5_ := Aside0.mk (hk _ _ NEB2.out B2.out); clear BK BO BP BS BR B2; have BK := m0_; have BO := m1_; have BP := m2_; have BS := m3_; have BR := m4_; have B2 := m5_; clear m0_ m1_ m2_ m3_ m4_ m5_; clear hz hb2 hk GR NEBK NEBO NEBP NEBS NEBR NEB2; have hcr : w8.cell? ⟨gr, 0, none⟩ = some (.func (.func 37) #[] #[.pointer (some ⟨G, 0, none⟩)]) := (blk_cell BRR.out 0).trans rfl)
            | (go_at_call 37; (with_reducible refine (faultplan_rules.t5 G a0_9 _ ((blk_cell BK.out 9).trans rfl)).mono ?_); rintro e9 w9 ⟨rfl, hb⟩; rw [HT5.out]; have mr_ := Aside0.mk (blk_below BRR.out hb); clear BRR hcr; have BRR := mr_; clear mr_; have m0_ := Aside0.mk (blk_below BK.out hb); have m1_ := Aside0.mk (blk_below BO.out hb); have m2_ := Aside0.mk (blk_below BP.out hb); have m3_ := Aside0.mk (blk_below BS.out hb); have m4_ := Aside0.mk (blk_below BR.out hb); have m5_ := Aside0.mk (blk_below B2.out hb); clear BK BO BP BS BR B2; have BK := m0_; have BO := m1_; have BP := m2_; have BS := m3_; have BR := m4_; have B2 := m5_; clear m0_ m1_ m2_ m3_ m4_ m5_; have n0_ := Aside0.mk (below_step HB.out hb); clear HB; have HB := n0_; clear n0_; clear hb))
      clear BRR
      rcases Bool.eq_false_or_eq_true ((p && a0_10 && a0_11)) with ht | ht
      · have HT6 := Aside0.mk ht
        clear ht
        rw [rounds_succ]
        go_wp2_with (first
            | ((with_reducible refine gate_dst (N := 19) rfl ?_); refine Kd.event_run (v := .agg #[.func (.func 38) #[] #[.pointer (some ⟨P, 0, none⟩), .pointer (some ⟨G, 0, none⟩)], .int .i64 8, .int .i64 0, .int .i64 0, .int .i64 0, .int .i64 0]) rfl (faultplan_Plan.ldm 36 (.tmp 18) 36 [.func (.func 38) #[] #[.pointer (some ⟨P, 0, none⟩), .pointer (some ⟨G, 0, none⟩)], .int .i64 8, .int .i64 0, .int .i64 0, .int .i64 0, .int .i64 0] _ rfl rfl BR.out rfl hu36 (by kernel_rfl)) ?_)
            | ((with_reducible refine gate_dst (N := 6) rfl ?_); refine box_event ?hg (N := 6) ?hd (cs := #[.nilFunc, .int .i64 0, .int .i64 0, .int .i64 0, .int .i64 0, .int .i64 0]) (t := 36) ?hr ?_; (case hd => rfl); (case hg => rfl); (case hr => first | (go_simp; done) | (go_simp; rfl)); intro gr hg w7 hbox hb; have GR : Aside0 (w.heap.size ≤ gr) := Aside0.mk (by rw [hg]; exact below_size HB.out); have BRR := Aside0.mk hbox; have NEBK := Aside0.mk (Nat.ne_of_lt (Nat.lt_of_lt_of_eq (blk_lt BK.out) hg.symm)); have NEBO := Aside0.mk (Nat.ne_of_lt (Nat.lt_of_lt_of_eq (blk_lt BO.out) hg.symm)); have NEBP := Aside0.mk (Nat.ne_of_lt (Nat.lt_of_lt_of_eq (blk_lt BP.out) hg.symm)); have NEBS := Aside0.mk (Nat.ne_of_lt (Nat.lt_of_lt_of_eq (blk_lt BS.out) hg.symm)); have NEBR := Aside0.mk (Nat.ne_of_lt (Nat.lt_of_lt_of_eq (blk_lt BR.out) hg.symm)); have NEB2 := Aside0.mk (Nat.ne_of_lt (Nat.lt_of_lt_of_eq (blk_lt B2.out) hg.symm)); have m0_ := Aside0.mk (blk_below BK.out hb); have m1_ := Aside0.mk (blk_below BO.out hb); have m2_ := Aside0.mk (blk_below BP.out hb); have m3_ := Aside0.mk (blk_below BS.out hb); have m4_ := Aside0.mk (blk_below BR.out hb); have m5_ := Aside0.mk (blk_below B2.out hb); clear BK BO BP BS BR B2; have BK := m0_; have BO := m1_; have BP := m2_; have BS := m3_; have BR := m4_; have B2 := m5_; clear m0_ m1_ m2_ m3_ m4_ m5_; have n0_ := Aside0.mk (below_step HB.out hb); clear HB; have HB := n0_; clear n0_; clear hbox hb hg)
            | ((with_reducible refine gate_store (t := 36) (p := 6) rfl ?_); refine faultplan_Plan.st (w0 := w) 36 rfl rfl rfl rfl rfl BRR.out (by kernel_rfl) rfl (by simp [Value.oneCell']) HB.out GR.out ?_; intro w8 hz hb2 hk; clear BRR HB; have BRR := Aside0.mk hz; have HB := Aside0.mk hb2; have m0_ := Aside0.mk (hk _ _ NEBK.out BK.out); have m1_ := Aside0.mk (hk _ _ NEBO.out BO.out); have m2_ := Aside0.mk (hk _ _ NEBP.out BP.out); have m3_ := Aside0.mk (hk _ _ NEBS.out BS.out); have m4_ := Aside0.mk (hk _ _ NEBR.out BR.out); have m5_ := Aside0.mk (hk _ _ NEB2.out B2.out); clear BK BO BP BS BR B2; have BK := m0_; have BO := m1_; have BP := m2_; have BS := m3_; have BR := m4_; have B2 := m5_; clear m0_ m1_ m2_ m3_ m4_ m5_; clear hz hb2 hk GR NEBK NEBO NEBP NEBS NEBR NEB2; have hcr : w8.cell? ⟨gr, 0, none⟩ = some (.func (.func 38) #[] #[.pointer (some ⟨P, 0, none⟩), .pointer (some ⟨G, 0, none⟩)]) := (blk_cell BRR.out 0).trans rfl)
            | (go_at_call 38; (with_reducible refine (faultplan_rules.t6 P G a0_10 a0_11 p _ ((blk_cell BP.out 0).trans rfl) ((blk_cell BK.out 10).trans rfl) ((blk_cell BK.out 11).trans rfl)).mono ?_); rintro e9 w9 ⟨rfl, hb⟩; rw [HT6.out]; have mr_ := Aside0.mk (blk_below BRR.out hb); clear BRR hcr; have BRR := mr_; clear mr_; have m0_ := Aside0.mk (blk_below BK.out hb); have m1_ := Aside0.mk (blk_below BO.out hb); have m2_ := Aside0.mk (blk_below BP.out hb); have m3_ := Aside0.mk (blk_below BS.out hb); have m4_ := Aside0.mk (blk_below BR.out hb); have m5_ := Aside0.mk (blk_below B2.out hb); clear BK BO BP BS BR B2; have BK := m0_; have BO := m1_; have BP := m2_; have BS := m3_; have BR := m4_; have B2 := m5_; clear m0_ m1_ m2_ m3_ m4_ m5_; have n0_ := Aside0.mk (below_step HB.out hb); clear HB; have HB := n0_; clear n0_; clear hb)
            | ((with_reducible refine gate_dst (N := 24) rfl ?_); refine Kd.event_run (v := .agg #[.int .i64 8, .int .i64 0, .int .i64 0, .int .i64 0, .int .i64 0]) rfl (faultplan_Plan.ldm 28 (.tmp 23) 1 [.int .i64 8, .int .i64 0, .int .i64 0, .int .i64 0, .int .i64 0] _ rfl rfl BRR.out rfl hu28 (by kernel_rfl)) ?_)
            | ((with_reducible refine gate_store (t := 28) (p := 2) rfl ?_); refine faultplan_Plan.st (w0 := w) 28 rfl rfl rfl rfl rfl B2.out (by kernel_rfl) rfl (by simp [Value.oneCell']) HB.out G2.out ?_; intro wz hz hb hk; clear B2 HB; have B2 := Aside0.mk hz; have HB := Aside0.mk hb; clear hz hb hk))
        have h0 := HPK.out
        unfold faultplan_Plan.pick at h0
        rw [if_neg (Bool.eq_false_iff.mp HT0.out), if_neg (Bool.eq_false_iff.mp HT1.out), if_neg (Bool.eq_false_iff.mp HT2.out), if_neg (Bool.eq_false_iff.mp HT3.out), if_neg (Bool.eq_false_iff.mp HT4.out), if_neg (Bool.eq_false_iff.mp HT5.out), if_pos HT6.out] at h0
        simp only [Option.some.injEq, Prod.mk.injEq] at h0
        obtain ⟨rfl, rfl, rfl, rfl, rfl, rfl⟩ := h0
        refine bodyPost_ret (results_ct rfl _ _ g2 28 #[.int .i64 8, .int .i64 0, .int .i64 0, .int .i64 0, .int .i64 0] (0, 0) _ rfl B2.out hu28 rfl (by kernel_rfl)) rfl ?_
        exact ⟨rfl, HB.out⟩
      have HT6 := Aside0.mk ht
      clear ht
      rw [rounds_succ]
      go_wp2_with (first
            | ((with_reducible refine gate_dst (N := 19) rfl ?_); refine Kd.event_run (v := .agg #[.func (.func 38) #[] #[.pointer (some ⟨P, 0, none⟩), .pointer (some ⟨G, 0, none⟩)], .int .i64 8, .int .i64 0, .int .i64 0, .int .i64 0, .int .i64 0]) rfl (faultplan_Plan.ldm 36 (.tmp 18) 36 [.func (.func 38) #[] #[.pointer (some ⟨P, 0, none⟩), .pointer (some ⟨G, 0, none⟩)], .int .i64 8, .int .i64 0, .int .i64 0, .int .i64 0, .int .i64 0] _ rfl rfl BR.out rfl hu36 (by kernel_rfl)) ?_)
            | ((with_reducible refine gate_dst (N := 6) rfl ?_); refine box_event ?hg (N := 6) ?hd (cs := #[.nilFunc, .int .i64 0, .int .i64 0, .int .i64 0, .int .i64 0, .int .i64 0]) (t := 36) ?hr ?_; (case hd => rfl); (case hg => rfl); (case hr => first | (go_simp; done) | (go_simp; rfl)); intro gr hg w7 hbox hb; have GR : Aside0 (w.heap.size ≤ gr) := Aside0.mk (by rw [hg]; exact below_size HB.out); have BRR := Aside0.mk hbox; have NEBK := Aside0.mk (Nat.ne_of_lt (Nat.lt_of_lt_of_eq (blk_lt BK.out) hg.symm)); have NEBO := Aside0.mk (Nat.ne_of_lt (Nat.lt_of_lt_of_eq (blk_lt BO.out) hg.symm)); have NEBP := Aside0.mk (Nat.ne_of_lt (Nat.lt_of_lt_of_eq (blk_lt BP.out) hg.symm)); have NEBS := Aside0.mk (Nat.ne_of_lt (Nat.lt_of_lt_of_eq (blk_lt BS.out) hg.symm)); have NEBR := Aside0.mk (Nat.ne_of_lt (Nat.lt_of_lt_of_eq (blk_lt BR.out) hg.symm)); have NEB2 := Aside0.mk (Nat.ne_of_lt (Nat.lt_of_lt_of_eq (blk_lt B2.out) hg.symm)); have m0_ := Aside0.mk (blk_below BK.out hb); have m1_ := Aside0.mk (blk_below BO.out hb); have m2_ := Aside0.mk (blk_below BP.out hb); have m3_ := Aside0.mk (blk_below BS.out hb); have m4_ := Aside0.mk (blk_below BR.out hb); have m5_ := Aside0.mk (blk_below B2.out hb); clear BK BO BP BS BR B2; have BK := m0_; have BO := m1_; have BP := m2_; have BS := m3_; have BR := m4_; have B2 := m5_; clear m0_ m1_ m2_ m3_ m4_ m5_; have n0_ := Aside0.mk (below_step HB.out hb); clear HB; have HB := n0_; clear n0_; clear hbox hb hg)
            | ((with_reducible refine gate_store (t := 36) (p := 6) rfl ?_); refine faultplan_Plan.st (w0 := w) 36 rfl rfl rfl rfl rfl BRR.out (by kernel_rfl) rfl (by simp [Value.oneCell']) HB.out GR.out ?_; intro w8 hz hb2 hk; clear BRR HB; have BRR := Aside0.mk hz; have HB := Aside0.mk hb2; have m0_ := Aside0.mk (hk _ _ NEBK.out BK.out); have m1_ := Aside0.mk (hk _ _ NEBO.out BO.out); have m2_ := Aside0.mk (hk _ _ NEBP.out BP.out); have m3_ := Aside0.mk (hk _ _ NEBS.out BS.out); have m4_ := Aside0.mk (hk _ _ NEBR.out BR.out); have m5_ := Aside0.mk (hk _ _ NEB2.out B2.out); clear BK BO BP BS BR B2; have BK := m0_; have BO := m1_; have BP := m2_; have BS := m3_; have BR := m4_; have B2 := m5_; clear m0_ m1_ m2_ m3_ m4_ m5_; clear hz hb2 hk GR NEBK NEBO NEBP NEBS NEBR NEB2; have hcr : w8.cell? ⟨gr, 0, none⟩ = some (.func (.func 38) #[] #[.pointer (some ⟨P, 0, none⟩), .pointer (some ⟨G, 0, none⟩)]) := (blk_cell BRR.out 0).trans rfl)
            | (go_at_call 38; (with_reducible refine (faultplan_rules.t6 P G a0_10 a0_11 p _ ((blk_cell BP.out 0).trans rfl) ((blk_cell BK.out 10).trans rfl) ((blk_cell BK.out 11).trans rfl)).mono ?_); rintro e9 w9 ⟨rfl, hb⟩; rw [HT6.out]; have mr_ := Aside0.mk (blk_below BRR.out hb); clear BRR hcr; have BRR := mr_; clear mr_; have m0_ := Aside0.mk (blk_below BK.out hb); have m1_ := Aside0.mk (blk_below BO.out hb); have m2_ := Aside0.mk (blk_below BP.out hb); have m3_ := Aside0.mk (blk_below BS.out hb); have m4_ := Aside0.mk (blk_below BR.out hb); have m5_ := Aside0.mk (blk_below B2.out hb); clear BK BO BP BS BR B2; have BK := m0_; have BO := m1_; have BP := m2_; have BS := m3_; have BR := m4_; have B2 := m5_; clear m0_ m1_ m2_ m3_ m4_ m5_; have n0_ := Aside0.mk (below_step HB.out hb); clear HB; have HB := n0_; clear n0_; clear hb))
      clear BRR
      rcases Bool.eq_false_or_eq_true ((p && (a0_10 || !a0_3))) with ht | ht
      · have HT7 := Aside0.mk ht
        clear ht
        rw [rounds_succ]
        go_wp2_with (first
            | ((with_reducible refine gate_dst (N := 19) rfl ?_); refine Kd.event_run (v := .agg #[.func (.func 39) #[] #[.pointer (some ⟨P, 0, none⟩), .pointer (some ⟨G, 0, none⟩)], .int .i64 9, .int .i64 0, .int .i64 0, .int .i64 0, .int .i64 1]) rfl (faultplan_Plan.ldm 36 (.tmp 18) 42 [.func (.func 39) #[] #[.pointer (some ⟨P, 0, none⟩), .pointer (some ⟨G, 0, none⟩)], .int .i64 9, .int .i64 0, .int .i64 0, .int .i64 0, .int .i64 1] _ rfl rfl BR.out rfl hu36 (by kernel_rfl)) ?_)
            | ((with_reducible refine gate_dst (N := 6) rfl ?_); refine box_event ?hg (N := 6) ?hd (cs := #[.nilFunc, .int .i64 0, .int .i64 0, .int .i64 0, .int .i64 0, .int .i64 0]) (t := 36) ?hr ?_; (case hd => rfl); (case hg => rfl); (case hr => first | (go_simp; done) | (go_simp; rfl)); intro gr hg w7 hbox hb; have GR : Aside0 (w.heap.size ≤ gr) := Aside0.mk (by rw [hg]; exact below_size HB.out); have BRR := Aside0.mk hbox; have NEBK := Aside0.mk (Nat.ne_of_lt (Nat.lt_of_lt_of_eq (blk_lt BK.out) hg.symm)); have NEBO := Aside0.mk (Nat.ne_of_lt (Nat.lt_of_lt_of_eq (blk_lt BO.out) hg.symm)); have NEBP := Aside0.mk (Nat.ne_of_lt (Nat.lt_of_lt_of_eq (blk_lt BP.out) hg.symm)); have NEBS := Aside0.mk (Nat.ne_of_lt (Nat.lt_of_lt_of_eq (blk_lt BS.out) hg.symm)); have NEBR := Aside0.mk (Nat.ne_of_lt (Nat.lt_of_lt_of_eq (blk_lt BR.out) hg.symm)); have NEB2 := Aside0.mk (Nat.ne_of_lt (Nat.lt_of_lt_of_eq (blk_lt B2.out) hg.symm)); have m0_ := Aside0.mk (blk_below BK.out hb); have m1_ := Aside0.mk (blk_below BO.out hb); have m2_ := Aside0.mk (blk_below BP.out hb); have m3_ := Aside0.mk (blk_below BS.out hb); have m4_ := Aside0.mk (blk_below BR.out hb); have m5_ := Aside0.mk (blk_below B2.out hb); clear BK BO BP BS BR B2; have BK := m0_; have BO := m1_; have BP := m2_; have BS := m3_; have BR := m4_; have B2 := m5_; clear m0_ m1_ m2_ m3_ m4_ m5_; have n0_ := Aside0.mk (below_step HB.out hb); clear HB; have HB := n0_; clear n0_; clear hbox hb hg)
            | ((with_reducible refine gate_store (t := 36) (p := 6) rfl ?_); refine faultplan_Plan.st (w0 := w) 36 rfl rfl rfl rfl rfl BRR.out (by kernel_rfl) rfl (by simp [Value.oneCell']) HB.out GR.out ?_; intro w8 hz hb2 hk; clear BRR HB; have BRR := Aside0.mk hz; have HB := Aside0.mk hb2; have m0_ := Aside0.mk (hk _ _ NEBK.out BK.out); have m1_ := Aside0.mk (hk _ _ NEBO.out BO.out); have m2_ := Aside0.mk (hk _ _ NEBP.out BP.out); have m3_ := Aside0.mk (hk _ _ NEBS.out BS.out); have m4_ := Aside0.mk (hk _ _ NEBR.out BR.out); have m5_ := Aside0.mk (hk _ _ NEB2.out B2.out); clear BK BO BP BS BR B2; have BK := m0_; have BO := m1_; have BP := m2_; have BS := m3_; have BR := m4_; have B2 := m5_; clear m0_ m1_ m2_ m3_ m4_ m5_; clear hz hb2 hk GR NEBK NEBO NEBP NEBS NEBR NEB2; have hcr : w8.cell? ⟨gr, 0, none⟩ = some (.func (.func 39) #[] #[.pointer (some ⟨P, 0, none⟩), .pointer (some ⟨G, 0, none⟩)]) := (blk_cell BRR.out 0).trans rfl)
            | (go_at_call 39; (with_reducible refine (faultplan_rules.t7 P G a0_3 a0_10 p _ ((blk_cell BP.out 0).trans rfl) ((blk_cell BK.out 10).trans rfl) ((blk_cell BK.out 3).trans rfl)).mono ?_); rintro e9 w9 ⟨rfl, hb⟩; rw [HT7.out]; have mr_ := Aside0.mk (blk_below BRR.out hb); clear BRR hcr; have BRR := mr_; clear mr_; have m0_ := Aside0.mk (blk_below BK.out hb); have m1_ := Aside0.mk (blk_below BO.out hb); have m2_ := Aside0.mk (blk_below BP.out hb); have m3_ := Aside0.mk (blk_below BS.out hb); have m4_ := Aside0.mk (blk_below BR.out hb); have m5_ := Aside0.mk (blk_below B2.out hb); clear BK BO BP BS BR B2; have BK := m0_; have BO := m1_; have BP := m2_; have BS := m3_; have BR := m4_; have B2 := m5_; clear m0_ m1_ m2_ m3_ m4_ m5_; have n0_ := Aside0.mk (below_step HB.out hb); clear HB; have HB := n0_; clear n0_; clear hb)
            | ((with_reducible refine gate_dst (N := 24) rfl ?_); refine Kd.event_run (v := .agg #[.int .i64 9, .int .i64 0, .int .i64 0, .int .i64 0, .int .i64 1]) rfl (faultplan_Plan.ldm 28 (.tmp 23) 1 [.int .i64 9, .int .i64 0, .int .i64 0, .int .i64 0, .int .i64 1] _ rfl rfl BRR.out rfl hu28 (by kernel_rfl)) ?_)
            | ((with_reducible refine gate_store (t := 28) (p := 2) rfl ?_); refine faultplan_Plan.st (w0 := w) 28 rfl rfl rfl rfl rfl B2.out (by kernel_rfl) rfl (by simp [Value.oneCell']) HB.out G2.out ?_; intro wz hz hb hk; clear B2 HB; have B2 := Aside0.mk hz; have HB := Aside0.mk hb; clear hz hb hk))
        have h0 := HPK.out
        unfold faultplan_Plan.pick at h0
        rw [if_neg (Bool.eq_false_iff.mp HT0.out), if_neg (Bool.eq_false_iff.mp HT1.out), if_neg (Bool.eq_false_iff.mp HT2.out), if_neg (Bool.eq_false_iff.mp HT3.out), if_neg (Bool.eq_false_iff.mp HT4.out), if_neg (Bool.eq_false_iff.mp HT5.out), if_neg (Bool.eq_false_iff.mp HT6.out), if_pos HT7.out] at h0
        simp only [Option.some.injEq, Prod.mk.injEq] at h0
        obtain ⟨rfl, rfl, rfl, rfl, rfl, rfl⟩ := h0
        refine bodyPost_ret (results_ct rfl _ _ g2 28 #[.int .i64 9, .int .i64 0, .int .i64 0, .int .i64 0, .int .i64 1] (0, 0) _ rfl B2.out hu28 rfl (by kernel_rfl)) rfl ?_
        exact ⟨rfl, HB.out⟩
      have HT7 := Aside0.mk ht
      clear ht
      rw [rounds_succ]
      go_wp2_with (first
            | ((with_reducible refine gate_dst (N := 19) rfl ?_); refine Kd.event_run (v := .agg #[.func (.func 39) #[] #[.pointer (some ⟨P, 0, none⟩), .pointer (some ⟨G, 0, none⟩)], .int .i64 9, .int .i64 0, .int .i64 0, .int .i64 0, .int .i64 1]) rfl (faultplan_Plan.ldm 36 (.tmp 18) 42 [.func (.func 39) #[] #[.pointer (some ⟨P, 0, none⟩), .pointer (some ⟨G, 0, none⟩)], .int .i64 9, .int .i64 0, .int .i64 0, .int .i64 0, .int .i64 1] _ rfl rfl BR.out rfl hu36 (by kernel_rfl)) ?_)
            | ((with_reducible refine gate_dst (N := 6) rfl ?_); refine box_event ?hg (N := 6) ?hd (cs := #[.nilFunc, .int .i64 0, .int .i64 0, .int .i64 0, .int .i64 0, .int .i64 0]) (t := 36) ?hr ?_; (case hd => rfl); (case hg => rfl); (case hr => first | (go_simp; done) | (go_simp; rfl)); intro gr hg w7 hbox hb; have GR : Aside0 (w.heap.size ≤ gr) := Aside0.mk (by rw [hg]; exact below_size HB.out); have BRR := Aside0.mk hbox; have NEBK := Aside0.mk (Nat.ne_of_lt (Nat.lt_of_lt_of_eq (blk_lt BK.out) hg.symm)); have NEBO := Aside0.mk (Nat.ne_of_lt (Nat.lt_of_lt_of_eq (blk_lt BO.out) hg.symm)); have NEBP := Aside0.mk (Nat.ne_of_lt (Nat.lt_of_lt_of_eq (blk_lt BP.out) hg.symm)); have NEBS := Aside0.mk (Nat.ne_of_lt (Nat.lt_of_lt_of_eq (blk_lt BS.out) hg.symm)); have NEBR := Aside0.mk (Nat.ne_of_lt (Nat.lt_of_lt_of_eq (blk_lt BR.out) hg.symm)); have NEB2 := Aside0.mk (Nat.ne_of_lt (Nat.lt_of_lt_of_eq (blk_lt B2.out) hg.symm)); have m0_ := Aside0.mk (blk_below BK.out hb); have m1_ := Aside0.mk (blk_below BO.out hb); have m2_ := Aside0.mk (blk_below BP.out hb); have m3_ := Aside0.mk (blk_below BS.out hb); have m4_ := Aside0.mk (blk_below BR.out hb); have m5_ := Aside0.mk (blk_below B2.out hb); clear BK BO BP BS BR B2; have BK := m0_; have BO := m1_; have BP := m2_; have BS := m3_; have BR := m4_; have B2 := m5_; clear m0_ m1_ m2_ m3_ m4_ m5_; have n0_ := Aside0.mk (below_step HB.out hb); clear HB; have HB := n0_; clear n0_; clear hbox hb hg)
            | ((with_reducible refine gate_store (t := 36) (p := 6) rfl ?_); refine faultplan_Plan.st (w0 := w) 36 rfl rfl rfl rfl rfl BRR.out (by kernel_rfl) rfl (by simp [Value.oneCell']) HB.out GR.out ?_; intro w8 hz hb2 hk; clear BRR HB; have BRR := Aside0.mk hz; have HB := Aside0.mk hb2; have m0_ := Aside0.mk (hk _ _ NEBK.out BK.out); have m1_ := Aside0.mk (hk _ _ NEBO.out BO.out); have m2_ := Aside0.mk (hk _ _ NEBP.out BP.out); have m3_ := Aside0.mk (hk _ _ NEBS.out BS.out); have m4_ := Aside0.mk (hk _ _ NEBR.out BR.out); have m5_ := Aside0.mk (hk _ _ NEB2.out B2.out); clear BK BO BP BS BR B2; have BK := m0_; have BO := m1_; have BP := m2_; have BS := m3_; have BR := m4_; have B2 := m5_; clear m0_ m1_ m2_ m3_ m4_ m5_; clear hz hb2 hk GR NEBK NEBO NEBP NEBS NEBR NEB2; have hcr : w8.cell? ⟨gr, 0, none⟩ = some (.func (.func 39) #[] #[.pointer (some ⟨P, 0, none⟩), .pointer (some ⟨G, 0, none⟩)]) := (blk_cell BRR.out 0).trans rfl)
            | (go_at_call 39; (with_reducible refine (faultplan_rules.t7 P G a0_3 a0_10 p _ ((blk_cell BP.out 0).trans rfl) ((blk_cell BK.out 10).trans rfl) ((blk_cell BK.out 3).trans rfl)).mono ?_); rintro e9 w9 ⟨rfl, hb⟩; rw [HT7.out]; have mr_ := Aside0.mk (blk_below BRR.out hb); clear BRR hcr; have BRR := mr_; clear mr_; have m0_ := Aside0.mk (blk_below BK.out hb); have m1_ := Aside0.mk (blk_below BO.out hb); have m2_ := Aside0.mk (blk_below BP.out hb); have m3_ := Aside0.mk (blk_below BS.out hb); have m4_ := Aside0.mk (blk_below BR.out hb); have m5_ := Aside0.mk (blk_below B2.out hb); clear BK BO BP BS BR B2; have BK := m0_; have BO := m1_; have BP := m2_; have BS := m3_; have BR := m4_; have B2 := m5_; clear m0_ m1_ m2_ m3_ m4_ m5_; have n0_ := Aside0.mk (below_step HB.out hb); clear HB; have HB := n0_; clear n0_; clear hb))
      clear BRR
      rcases Bool.eq_false_or_eq_true ((p && !a0_14 && a0_15)) with ht | ht
      · have HT8 := Aside0.mk ht
        clear ht
        rw [rounds_succ]
        go_wp2_with (first
            | ((with_reducible refine gate_dst (N := 19) rfl ?_); refine Kd.event_run (v := .agg #[.func (.func 40) #[] #[.pointer (some ⟨P, 0, none⟩), .pointer (some ⟨G, 0, none⟩)], .int .i64 2, .int .i64 0, .int .i64 5, .int .i64 0, .int .i64 0]) rfl (faultplan_Plan.ldm 36 (.tmp 18) 48 [.func (.func 40) #[] #[.pointer (some ⟨P, 0, none⟩), .pointer (some ⟨G, 0, none⟩)], .int .i64 2, .int .i64 0, .int .i64 5, .int .i64 0, .int .i64 0] _ rfl rfl BR.out rfl hu36 (by kernel_rfl)) ?_)
            | ((with_reducible refine gate_dst (N := 6) rfl ?_); refine box_event ?hg (N := 6) ?hd (cs := #[.nilFunc, .int .i64 0, .int .i64 0, .int .i64 0, .int .i64 0, .int .i64 0]) (t := 36) ?hr ?_; (case hd => rfl); (case hg => rfl); (case hr => first | (go_simp; done) | (go_simp; rfl)); intro gr hg w7 hbox hb; have GR : Aside0 (w.heap.size ≤ gr) := Aside0.mk (by rw [hg]; exact below_size HB.out); have BRR := Aside0.mk hbox; have NEBK := Aside0.mk (Nat.ne_of_lt (Nat.lt_of_lt_of_eq (blk_lt BK.out) hg.symm)); have NEBO := Aside0.mk (Nat.ne_of_lt (Nat.lt_of_lt_of_eq (blk_lt BO.out) hg.symm)); have NEBP := Aside0.mk (Nat.ne_of_lt (Nat.lt_of_lt_of_eq (blk_lt BP.out) hg.symm)); have NEBS := Aside0.mk (Nat.ne_of_lt (Nat.lt_of_lt_of_eq (blk_lt BS.out) hg.symm)); have NEBR := Aside0.mk (Nat.ne_of_lt (Nat.lt_of_lt_of_eq (blk_lt BR.out) hg.symm)); have NEB2 := Aside0.mk (Nat.ne_of_lt (Nat.lt_of_lt_of_eq (blk_lt B2.out) hg.symm)); have m0_ := Aside0.mk (blk_below BK.out hb); have m1_ := Aside0.mk (blk_below BO.out hb); have m2_ := Aside0.mk (blk_below BP.out hb); have m3_ := Aside0.mk (blk_below BS.out hb); have m4_ := Aside0.mk (blk_below BR.out hb); have m5_ := Aside0.mk (blk_below B2.out hb); clear BK BO BP BS BR B2; have BK := m0_; have BO := m1_; have BP := m2_; have BS := m3_; have BR := m4_; have B2 := m5_; clear m0_ m1_ m2_ m3_ m4_ m5_; have n0_ := Aside0.mk (below_step HB.out hb); clear HB; have HB := n0_; clear n0_; clear hbox hb hg)
            | ((with_reducible refine gate_store (t := 36) (p := 6) rfl ?_); refine faultplan_Plan.st (w0 := w) 36 rfl rfl rfl rfl rfl BRR.out (by kernel_rfl) rfl (by simp [Value.oneCell']) HB.out GR.out ?_; intro w8 hz hb2 hk; clear BRR HB; have BRR := Aside0.mk hz; have HB := Aside0.mk hb2; have m0_ := Aside0.mk (hk _ _ NEBK.out BK.out); have m1_ := Aside0.mk (hk _ _ NEBO.out BO.out); have m2_ := Aside0.mk (hk _ _ NEBP.out BP.out); have m3_ := Aside0.mk (hk _ _ NEBS.out BS.out); have m4_ := Aside0.mk (hk _ _ NEBR.out BR.out); have m5_ := Aside0.mk (hk _ _ NEB2.out B2.out); clear BK BO BP BS BR B2; have BK := m0_; have BO := m1_; have BP := m2_; have BS := m3_; have BR := m4_; have B2 := m5_; clear m0_ m1_ m2_ m3_ m4_ m5_; clear hz hb2 hk GR NEBK NEBO NEBP NEBS NEBR NEB2; have hcr : w8.cell? ⟨gr, 0, none⟩ = some (.func (.func 40) #[] #[.pointer (some ⟨P, 0, none⟩), .pointer (some ⟨G, 0, none⟩)]) := (blk_cell BRR.out 0).trans rfl)
            | (go_at_call 40; (with_reducible refine (faultplan_rules.t8 P G a0_14 a0_15 p _ ((blk_cell BP.out 0).trans rfl) ((blk_cell BK.out 14).trans rfl) ((blk_cell BK.out 15).trans rfl)).mono ?_); rintro e9 w9 ⟨rfl, hb⟩; rw [HT8.out]; have mr_ := Aside0.mk (blk_below BRR.out hb); clear BRR hcr; have BRR := mr_; clear mr_; have m0_ := Aside0.mk (blk_below BK.out hb); have m1_ := Aside0.mk (blk_below BO.out hb); have m2_ := Aside0.mk (blk_below BP.out hb); have m3_ := Aside0.mk (blk_below BS.out hb); have m4_ := Aside0.mk (blk_below BR.out hb); have m5_ := Aside0.mk (blk_below B2.out hb); clear BK BO BP BS BR B2; have BK := m0_; have BO := m1_; have BP := m2_; have BS := m3_; have BR := m4_; have B2 := m5_; clear m0_ m1_ m2_ m3_ m4_ m5_; have n0_ := Aside0.mk (below_step HB.out hb); clear HB; have HB := n0_; clear n0_; clear hb)
            | ((with_reducible refine gate_dst (N := 24) rfl ?_); refine Kd.event_run (v := .agg #[.int .i64 2, .int .i64 0, .int .i64 5, .int .i64 0, .int .i64 0]) rfl (faultplan_Plan.ldm 28 (.tmp 23) 1 [.int .i64 2, .int .i64 0, .int .i64 5, .int .i64 0, .int .i64 0] _ rfl rfl BRR.out rfl hu28 (by kernel_rfl)) ?_)
            | ((with_reducible refine gate_store (t := 28) (p := 2) rfl ?_); refine faultplan_Plan.st (w0 := w) 28 rfl rfl rfl rfl rfl B2.out (by kernel_rfl) rfl (by simp [Value.oneCell']) HB.out G2.out ?_; intro wz hz hb hk; clear B2 HB; have B2 := Aside0.mk hz; have HB := Aside0.mk hb; clear hz hb hk))
        have h0 := HPK.out
        unfold faultplan_Plan.pick at h0
        rw [if_neg (Bool.eq_false_iff.mp HT0.out), if_neg (Bool.eq_false_iff.mp HT1.out), if_neg (Bool.eq_false_iff.mp HT2.out), if_neg (Bool.eq_false_iff.mp HT3.out), if_neg (Bool.eq_false_iff.mp HT4.out), if_neg (Bool.eq_false_iff.mp HT5.out), if_neg (Bool.eq_false_iff.mp HT6.out), if_neg (Bool.eq_false_iff.mp HT7.out), if_pos HT8.out] at h0
        simp only [Option.some.injEq, Prod.mk.injEq] at h0
        obtain ⟨rfl, rfl, rfl, rfl, rfl, rfl⟩ := h0
        refine bodyPost_ret (results_ct rfl _ _ g2 28 #[.int .i64 2, .int .i64 0, .int .i64 5, .int .i64 0, .int .i64 0] (0, 0) _ rfl B2.out hu28 rfl (by kernel_rfl)) rfl ?_
        exact ⟨rfl, HB.out⟩
      have HT8 := Aside0.mk ht
      clear ht
      rw [rounds_succ]
      go_wp2_with (first
            | ((with_reducible refine gate_dst (N := 19) rfl ?_); refine Kd.event_run (v := .agg #[.func (.func 40) #[] #[.pointer (some ⟨P, 0, none⟩), .pointer (some ⟨G, 0, none⟩)], .int .i64 2, .int .i64 0, .int .i64 5, .int .i64 0, .int .i64 0]) rfl (faultplan_Plan.ldm 36 (.tmp 18) 48 [.func (.func 40) #[] #[.pointer (some ⟨P, 0, none⟩), .pointer (some ⟨G, 0, none⟩)], .int .i64 2, .int .i64 0, .int .i64 5, .int .i64 0, .int .i64 0] _ rfl rfl BR.out rfl hu36 (by kernel_rfl)) ?_)
            | ((with_reducible refine gate_dst (N := 6) rfl ?_); refine box_event ?hg (N := 6) ?hd (cs := #[.nilFunc, .int .i64 0, .int .i64 0, .int .i64 0, .int .i64 0, .int .i64 0]) (t := 36) ?hr ?_; (case hd => rfl); (case hg => rfl); (case hr => first | (go_simp; done) | (go_simp; rfl)); intro gr hg w7 hbox hb; have GR : Aside0 (w.heap.size ≤ gr) := Aside0.mk (by rw [hg]; exact below_size HB.out); have BRR := Aside0.mk hbox; have NEBK := Aside0.mk (Nat.ne_of_lt (Nat.lt_of_lt_of_eq (blk_lt BK.out) hg.symm)); have NEBO := Aside0.mk (Nat.ne_of_lt (Nat.lt_of_lt_of_eq (blk_lt BO.out) hg.symm)); have NEBP := Aside0.mk (Nat.ne_of_lt (Nat.lt_of_lt_of_eq (blk_lt BP.out) hg.symm)); have NEBS := Aside0.mk (Nat.ne_of_lt (Nat.lt_of_lt_of_eq (blk_lt BS.out) hg.symm)); have NEBR := Aside0.mk (Nat.ne_of_lt (Nat.lt_of_lt_of_eq (blk_lt BR.out) hg.symm)); have NEB2 := Aside0.mk (Nat.ne_of_lt (Nat.lt_of_lt_of_eq (blk_lt B2.out) hg.symm)); have m0_ := Aside0.mk (blk_below BK.out hb); have m1_ := Aside0.mk (blk_below BO.out hb); have m2_ := Aside0.mk (blk_below BP.out hb); have m3_ := Aside0.mk (blk_below BS.out hb); have m4_ := Aside0.mk (blk_below BR.out hb); have m5_ := Aside0.mk (blk_below B2.out hb); clear BK BO BP BS BR B2; have BK := m0_; have BO := m1_; have BP := m2_; have BS := m3_; have BR := m4_; have B2 := m5_; clear m0_ m1_ m2_ m3_ m4_ m5_; have n0_ := Aside0.mk (below_step HB.out hb); clear HB; have HB := n0_; clear n0_; clear hbox hb hg)
            | ((with_reducible refine gate_store (t := 36) (p := 6) rfl ?_); refine faultplan_Plan.st (w0 := w) 36 rfl rfl rfl rfl rfl BRR.out (by kernel_rfl) rfl (by simp [Value.oneCell']) HB.out GR.out ?_; intro w8 hz hb2 hk; clear BRR HB; have BRR := Aside0.mk hz; have HB := Aside0.mk hb2; have m0_ := Aside0.mk (hk _ _ NEBK.out BK.out); have m1_ := Aside0.mk (hk _ _ NEBO.out BO.out); have m2_ := Aside0.mk (hk _ _ NEBP.out BP.out); have m3_ := Aside0.mk (hk _ _ NEBS.out BS.out); have m4_ := Aside0.mk (hk _ _ NEBR.out BR.out); have m5_ := Aside0.mk (hk _ _ NEB2.out B2.out); clear BK BO BP BS BR B2; have BK := m0_; have BO := m1_; have BP := m2_; have BS := m3_; have BR := m4_; have B2 := m5_; clear m0_ m1_ m2_ m3_ m4_ m5_; clear hz hb2 hk GR NEBK NEBO NEBP NEBS NEBR NEB2; have hcr : w8.cell? ⟨gr, 0, none⟩ = some (.func (.func 40) #[] #[.pointer (some ⟨P, 0, none⟩), .pointer (some ⟨G, 0, none⟩)]) := (blk_cell BRR.out 0).trans rfl)
            | (go_at_call 40; (with_reducible refine (faultplan_rules.t8 P G a0_14 a0_15 p _ ((blk_cell BP.out 0).trans rfl) ((blk_cell BK.out 14).trans rfl) ((blk_cell BK.out 15).trans rfl)).mono ?_); rintro e9 w9 ⟨rfl, hb⟩; rw [HT8.out]; have mr_ := Aside0.mk (blk_below BRR.out hb); clear BRR hcr; have BRR := mr_; clear mr_; have m0_ := Aside0.mk (blk_below BK.out hb); have m1_ := Aside0.mk (blk_below BO.out hb); have m2_ := Aside0.mk (blk_below BP.out hb); have m3_ := Aside0.mk (blk_below BS.out hb); have m4_ := Aside0.mk (blk_below BR.out hb); have m5_ := Aside0.mk (blk_below B2.out hb); clear BK BO BP BS BR B2; have BK := m0_; have BO := m1_; have BP := m2_; have BS := m3_; have BR := m4_; have B2 := m5_; clear m0_ m1_ m2_ m3_ m4_ m5_; have n0_ := Aside0.mk (below_step HB.out hb); clear HB; have HB := n0_; clear n0_; clear hb))
      clear BRR
      rcases Bool.eq_false_or_eq_true (p) with ht | ht
      · have HT9 := Aside0.mk ht
        clear ht
        rw [rounds_succ]
        go_wp2_with (first
            | ((with_reducible refine gate_dst (N := 19) rfl ?_); refine Kd.event_run (v := .agg #[.func (.func 41) #[] #[.pointer (some ⟨P, 0, none⟩)], .int .i64 7, .int .i64 0, .int .i64 0, .int .i64 0, .int .i64 0]) rfl (faultplan_Plan.ldm 36 (.tmp 18) 54 [.func (.func 41) #[] #[.pointer (some ⟨P, 0, none⟩)], .int .i64 7, .int .i64 0, .int .i64 0, .int .i64 0, .int .i64 0] _ rfl rfl BR.out rfl hu36 (by kernel_rfl)) ?_)
            | ((with_reducible refine gate_dst (N := 6) rfl ?_); refine box_event ?hg (N := 6) ?hd (cs := #[.nilFunc, .int .i64 0, .int .i64 0, .int .i64 0, .int .i64 0, .int .i64 0]) (t := 36) ?hr ?_; (case hd => rfl); (case hg => rfl); (case hr => first | (go_simp; done) | (go_simp; rfl)); intro gr hg w7 hbox hb; have GR : Aside0 (w.heap.size ≤ gr) := Aside0.mk (by rw [hg]; exact below_size HB.out); have BRR := Aside0.mk hbox; have NEBK := Aside0.mk (Nat.ne_of_lt (Nat.lt_of_lt_of_eq (blk_lt BK.out) hg.symm)); have NEBO := Aside0.mk (Nat.ne_of_lt (Nat.lt_of_lt_of_eq (blk_lt BO.out) hg.symm)); have NEBP := Aside0.mk (Nat.ne_of_lt (Nat.lt_of_lt_of_eq (blk_lt BP.out) hg.symm)); have NEBS := Aside0.mk (Nat.ne_of_lt (Nat.lt_of_lt_of_eq (blk_lt BS.out) hg.symm)); have NEBR := Aside0.mk (Nat.ne_of_lt (Nat.lt_of_lt_of_eq (blk_lt BR.out) hg.symm)); have NEB2 := Aside0.mk (Nat.ne_of_lt (Nat.lt_of_lt_of_eq (blk_lt B2.out) hg.symm)); have m0_ := Aside0.mk (blk_below BK.out hb); have m1_ := Aside0.mk (blk_below BO.out hb); have m2_ := Aside0.mk (blk_below BP.out hb); have m3_ := Aside0.mk (blk_below BS.out hb); have m4_ := Aside0.mk (blk_below BR.out hb); have m5_ := Aside0.mk (blk_below B2.out hb); clear BK BO BP BS BR B2; have BK := m0_; have BO := m1_; have BP := m2_; have BS := m3_; have BR := m4_; have B2 := m5_; clear m0_ m1_ m2_ m3_ m4_ m5_; have n0_ := Aside0.mk (below_step HB.out hb); clear HB; have HB := n0_; clear n0_; clear hbox hb hg)
            | ((with_reducible refine gate_store (t := 36) (p := 6) rfl ?_); refine faultplan_Plan.st (w0 := w) 36 rfl rfl rfl rfl rfl BRR.out (by kernel_rfl) rfl (by simp [Value.oneCell']) HB.out GR.out ?_; intro w8 hz hb2 hk; clear BRR HB; have BRR := Aside0.mk hz; have HB := Aside0.mk hb2; have m0_ := Aside0.mk (hk _ _ NEBK.out BK.out); have m1_ := Aside0.mk (hk _ _ NEBO.out BO.out); have m2_ := Aside0.mk (hk _ _ NEBP.out BP.out); have m3_ := Aside0.mk (hk _ _ NEBS.out BS.out); have m4_ := Aside0.mk (hk _ _ NEBR.out BR.out); have m5_ := Aside0.mk (hk _ _ NEB2.out B2.out); clear BK BO BP BS BR B2; have BK := m0_; have BO := m1_; have BP := m2_; have BS := m3_; have BR := m4_; have B2 := m5_; clear m0_ m1_ m2_ m3_ m4_ m5_; clear hz hb2 hk GR NEBK NEBO NEBP NEBS NEBR NEB2; have hcr : w8.cell? ⟨gr, 0, none⟩ = some (.func (.func 41) #[] #[.pointer (some ⟨P, 0, none⟩)]) := (blk_cell BRR.out 0).trans rfl)
            | (go_at_call 41; (with_reducible refine (faultplan_rules.t9 P p _ ((blk_cell BP.out 0).trans rfl)).mono ?_); rintro e9 w9 ⟨rfl, hb⟩; rw [HT9.out]; have mr_ := Aside0.mk (blk_below BRR.out hb); clear BRR hcr; have BRR := mr_; clear mr_; have m0_ := Aside0.mk (blk_below BK.out hb); have m1_ := Aside0.mk (blk_below BO.out hb); have m2_ := Aside0.mk (blk_below BP.out hb); have m3_ := Aside0.mk (blk_below BS.out hb); have m4_ := Aside0.mk (blk_below BR.out hb); have m5_ := Aside0.mk (blk_below B2.out hb); clear BK BO BP BS BR B2; have BK := m0_; have BO := m1_; have BP := m2_; have BS := m3_; have BR := m4_; have B2 := m5_; clear m0_ m1_ m2_ m3_ m4_ m5_; have n0_ := Aside0.mk (below_step HB.out hb); clear HB; have HB := n0_; clear n0_; clear hb)
            | ((with_reducible refine gate_dst (N := 24) rfl ?_); refine Kd.event_run (v := .agg #[.int .i64 7, .int .i64 0, .int .i64 0, .int .i64 0, .int .i64 0]) rfl (faultplan_Plan.ldm 28 (.tmp 23) 1 [.int .i64 7, .int .i64 0, .int .i64 0, .int .i64 0, .int .i64 0] _ rfl rfl BRR.out rfl hu28 (by kernel_rfl)) ?_)
            | ((with_reducible refine gate_store (t := 28) (p := 2) rfl ?_); refine faultplan_Plan.st (w0 := w) 28 rfl rfl rfl rfl rfl B2.out (by kernel_rfl) rfl (by simp [Value.oneCell']) HB.out G2.out ?_; intro wz hz hb hk; clear B2 HB; have B2 := Aside0.mk hz; have HB := Aside0.mk hb; clear hz hb hk))
        have h0 := HPK.out
        unfold faultplan_Plan.pick at h0
        rw [if_neg (Bool.eq_false_iff.mp HT0.out), if_neg (Bool.eq_false_iff.mp HT1.out), if_neg (Bool.eq_false_iff.mp HT2.out), if_neg (Bool.eq_false_iff.mp HT3.out), if_neg (Bool.eq_false_iff.mp HT4.out), if_neg (Bool.eq_false_iff.mp HT5.out), if_neg (Bool.eq_false_iff.mp HT6.out), if_neg (Bool.eq_false_iff.mp HT7.out), if_neg (Bool.eq_false_iff.mp HT8.out), if_pos HT9.out] at h0
        simp only [Option.some.injEq, Prod.mk.injEq] at h0
        obtain ⟨rfl, rfl, rfl, rfl, rfl, rfl⟩ := h0
        refine bodyPost_ret (results_ct rfl _ _ g2 28 #[.int .i64 7, .int .i64 0, .int .i64 0, .int .i64 0, .int .i64 0] (0, 0) _ rfl B2.out hu28 rfl (by kernel_rfl)) rfl ?_
        exact ⟨rfl, HB.out⟩
      have HT9 := Aside0.mk ht
      clear ht
      rw [rounds_succ]
      go_wp2_with (first
            | ((with_reducible refine gate_dst (N := 19) rfl ?_); refine Kd.event_run (v := .agg #[.func (.func 41) #[] #[.pointer (some ⟨P, 0, none⟩)], .int .i64 7, .int .i64 0, .int .i64 0, .int .i64 0, .int .i64 0]) rfl (faultplan_Plan.ldm 36 (.tmp 18) 54 [.func (.func 41) #[] #[.pointer (some ⟨P, 0, none⟩)], .int .i64 7, .int .i64 0, .int .i64 0, .int .i64 0, .int .i64 0] _ rfl rfl BR.out rfl hu36 (by kernel_rfl)) ?_)
            | ((with_reducible refine gate_dst (N := 6) rfl ?_); refine box_event ?hg (N := 6) ?hd (cs := #[.nilFunc, .int .i64 0, .int .i64 0, .int .i64 0, .int .i64 0, .int .i64 0]) (t := 36) ?hr ?_; (case hd => rfl); (case hg => rfl); (case hr => first | (go_simp; done) | (go_simp; rfl)); intro gr hg w7 hbox hb; have GR : Aside0 (w.heap.size ≤ gr) := Aside0.mk (by rw [hg]; exact below_size HB.out); have BRR := Aside0.mk hbox; have NEBK := Aside0.mk (Nat.ne_of_lt (Nat.lt_of_lt_of_eq (blk_lt BK.out) hg.symm)); have NEBO := Aside0.mk (Nat.ne_of_lt (Nat.lt_of_lt_of_eq (blk_lt BO.out) hg.symm)); have NEBP := Aside0.mk (Nat.ne_of_lt (Nat.lt_of_lt_of_eq (blk_lt BP.out) hg.symm)); have NEBS := Aside0.mk (Nat.ne_of_lt (Nat.lt_of_lt_of_eq (blk_lt BS.out) hg.symm)); have NEBR := Aside0.mk (Nat.ne_of_lt (Nat.lt_of_lt_of_eq (blk_lt BR.out) hg.symm)); have NEB2 := Aside0.mk (Nat.ne_of_lt (Nat.lt_of_lt_of_eq (blk_lt B2.out) hg.symm)); have m0_ := Aside0.mk (blk_below BK.out hb); have m1_ := Aside0.mk (blk_below BO.out hb); have m2_ := Aside0.mk (blk_below BP.out hb); have m3_ := Aside0.mk (blk_below BS.out hb); have m4_ := Aside0.mk (blk_below BR.out hb); have m5_ := Aside0.mk (blk_below B2.out hb); clear BK BO BP BS BR B2; have BK := m0_; have BO := m1_; have BP := m2_; have BS := m3_; have BR := m4_; have B2 := m5_; clear m0_ m1_ m2_ m3_ m4_ m5_; have n0_ := Aside0.mk (below_step HB.out hb); clear HB; have HB := n0_; clear n0_; clear hbox hb hg)
            | ((with_reducible refine gate_store (t := 36) (p := 6) rfl ?_); refine faultplan_Plan.st (w0 := w) 36 rfl rfl rfl rfl rfl BRR.out (by kernel_rfl) rfl (by simp [Value.oneCell']) HB.out GR.out ?_; intro w8 hz hb2 hk; clear BRR HB; have BRR := Aside0.mk hz; have HB := Aside0.mk hb2; have m0_ := Aside0.mk (hk _ _ NEBK.out BK.out); have m1_ := Aside0.mk (hk _ _ NEBO.out BO.out); have m2_ := Aside0.mk (hk _ _ NEBP.out BP.out); have m3_ := Aside0.mk (hk _ _ NEBS.out BS.out); have m4_ := Aside0.mk (hk _ _ NEBR.out BR.out); have m5_ := Aside0.mk (hk _ _ NEB2.out B2.out); clear BK BO BP BS BR B2; have BK := m0_; have BO := m1_; have BP := m2_; have BS := m3_; have BR := m4_; have B2 := m5_; clear m0_ m1_ m2_ m3_ m4_ m5_; clear hz hb2 hk GR NEBK NEBO NEBP NEBS NEBR NEB2; have hcr : w8.cell? ⟨gr, 0, none⟩ = some (.func (.func 41) #[] #[.pointer (some ⟨P, 0, none⟩)]) := (blk_cell BRR.out 0).trans rfl)
            | (go_at_call 41; (with_reducible refine (faultplan_rules.t9 P p _ ((blk_cell BP.out 0).trans rfl)).mono ?_); rintro e9 w9 ⟨rfl, hb⟩; rw [HT9.out]; have mr_ := Aside0.mk (blk_below BRR.out hb); clear BRR hcr; have BRR := mr_; clear mr_; have m0_ := Aside0.mk (blk_below BK.out hb); have m1_ := Aside0.mk (blk_below BO.out hb); have m2_ := Aside0.mk (blk_below BP.out hb); have m3_ := Aside0.mk (blk_below BS.out hb); have m4_ := Aside0.mk (blk_below BR.out hb); have m5_ := Aside0.mk (blk_below B2.out hb); clear BK BO BP BS BR B2; have BK := m0_; have BO := m1_; have BP := m2_; have BS := m3_; have BR := m4_; have B2 := m5_; clear m0_ m1_ m2_ m3_ m4_ m5_; have n0_ := Aside0.mk (below_step HB.out hb); clear HB; have HB := n0_; clear n0_; clear hb))
      clear BRR
      rcases Bool.eq_false_or_eq_true ((s && a0_12)) with ht | ht
      · have HT10 := Aside0.mk ht
        clear ht
        rw [rounds_succ]
        go_wp2_with (first
            | ((with_reducible refine gate_dst (N := 19) rfl ?_); refine Kd.event_run (v := .agg #[.func (.func 42) #[] #[.pointer (some ⟨S, 0, none⟩), .pointer (some ⟨G, 0, none⟩)], .int .i64 10, .int .i64 0, .int .i64 0, .int .i64 0, .int .i64 0]) rfl (faultplan_Plan.ldm 36 (.tmp 18) 60 [.func (.func 42) #[] #[.pointer (some ⟨S, 0, none⟩), .pointer (some ⟨G, 0, none⟩)], .int .i64 10, .int .i64 0, .int .i64 0, .int .i64 0, .int .i64 0] _ rfl rfl BR.out rfl hu36 (by kernel_rfl)) ?_)
            | ((with_reducible refine gate_dst (N := 6) rfl ?_); refine box_event ?hg (N := 6) ?hd (cs := #[.nilFunc, .int .i64 0, .int .i64 0, .int .i64 0, .int .i64 0, .int .i64 0]) (t := 36) ?hr ?_; (case hd => rfl); (case hg => rfl); (case hr => first | (go_simp; done) | (go_simp; rfl)); intro gr hg w7 hbox hb; have GR : Aside0 (w.heap.size ≤ gr) := Aside0.mk (by rw [hg]; exact below_size HB.out); have BRR := Aside0.mk hbox; have NEBK := Aside0.mk (Nat.ne_of_lt (Nat.lt_of_lt_of_eq (blk_lt BK.out) hg.symm)); have NEBO := Aside0.mk (Nat.ne_of_lt (Nat.lt_of_lt_of_eq (blk_lt BO.out) hg.symm)); have NEBP := Aside0.mk (Nat.ne_of_lt (Nat.lt_of_lt_of_eq (blk_lt BP.out) hg.symm)); have NEBS := Aside0.mk (Nat.ne_of_lt (Nat.lt_of_lt_of_eq (blk_lt BS.out) hg.symm)); have NEBR := Aside0.mk (Nat.ne_of_lt (Nat.lt_of_lt_of_eq (blk_lt BR.out) hg.symm)); have NEB2 := Aside0.mk (Nat.ne_of_lt (Nat.lt_of_lt_of_eq (blk_lt B2.out) hg.symm)); have m0_ := Aside0.mk (blk_below BK.out hb); have m1_ := Aside0.mk (blk_below BO.out hb); have m2_ := Aside0.mk (blk_below BP.out hb); have m3_ := Aside0.mk (blk_below BS.out hb); have m4_ := Aside0.mk (blk_below BR.out hb); have m5_ := Aside0.mk (blk_below B2.out hb); clear BK BO BP BS BR B2; have BK := m0_; have BO := m1_; have BP := m2_; have BS := m3_; have BR := m4_; have B2 := m5_; clear m0_ m1_ m2_ m3_ m4_ m5_; have n0_ := Aside0.mk (below_step HB.out hb); clear HB; have HB := n0_; clear n0_; clear hbox hb hg)
            | ((with_reducible refine gate_store (t := 36) (p := 6) rfl ?_); refine faultplan_Plan.st (w0 := w) 36 rfl rfl rfl rfl rfl BRR.out (by kernel_rfl) rfl (by simp [Value.oneCell']) HB.out GR.out ?_; intro w8 hz hb2 hk; clear BRR HB; have BRR := Aside0.mk hz; have HB := Aside0.mk hb2; have m0_ := Aside0.mk (hk _ _ NEBK.out BK.out); have m1_ := Aside0.mk (hk _ _ NEBO.out BO.out); have m2_ := Aside0.mk (hk _ _ NEBP.out BP.out); have m3_ := Aside0.mk (hk _ _ NEBS.out BS.out); have m4_ := Aside0.mk (hk _ _ NEBR.out BR.out); have m5_ := Aside0.mk (hk _ _ NEB2.out B2.out); clear BK BO BP BS BR B2; have BK := m0_; have BO := m1_; have BP := m2_; have BS := m3_; have BR := m4_; have B2 := m5_; clear m0_ m1_ m2_ m3_ m4_ m5_; clear hz hb2 hk GR NEBK NEBO NEBP NEBS NEBR NEB2; have hcr : w8.cell? ⟨gr, 0, none⟩ = some (.func (.func 42) #[] #[.pointer (some ⟨S, 0, none⟩), .pointer (some ⟨G, 0, none⟩)]) := (blk_cell BRR.out 0).trans rfl)
            | (go_at_call 42; (with_reducible refine (faultplan_rules.t10 S G a0_12 s _ ((blk_cell BS.out 0).trans rfl) ((blk_cell BK.out 12).trans rfl)).mono ?_); rintro e9 w9 ⟨rfl, hb⟩; rw [HT10.out]; have mr_ := Aside0.mk (blk_below BRR.out hb); clear BRR hcr; have BRR := mr_; clear mr_; have m0_ := Aside0.mk (blk_below BK.out hb); have m1_ := Aside0.mk (blk_below BO.out hb); have m2_ := Aside0.mk (blk_below BP.out hb); have m3_ := Aside0.mk (blk_below BS.out hb); have m4_ := Aside0.mk (blk_below BR.out hb); have m5_ := Aside0.mk (blk_below B2.out hb); clear BK BO BP BS BR B2; have BK := m0_; have BO := m1_; have BP := m2_; have BS := m3_; have BR := m4_; have B2 := m5_; clear m0_ m1_ m2_ m3_ m4_ m5_; have n0_ := Aside0.mk (below_step HB.out hb); clear HB; have HB := n0_; clear n0_; clear hb)
            | ((with_reducible refine gate_dst (N := 24) rfl ?_); refine Kd.event_run (v := .agg #[.int .i64 10, .int .i64 0, .int .i64 0, .int .i64 0, .int .i64 0]) rfl (faultplan_Plan.ldm 28 (.tmp 23) 1 [.int .i64 10, .int .i64 0, .int .i64 0, .int .i64 0, .int .i64 0] _ rfl rfl BRR.out rfl hu28 (by kernel_rfl)) ?_)
            | ((with_reducible refine gate_store (t := 28) (p := 2) rfl ?_); refine faultplan_Plan.st (w0 := w) 28 rfl rfl rfl rfl rfl B2.out (by kernel_rfl) rfl (by simp [Value.oneCell']) HB.out G2.out ?_; intro wz hz hb hk; clear B2 HB; have B2 := Aside0.mk hz; have HB := Aside0.mk hb; clear hz hb hk))
        have h0 := HPK.out
        unfold faultplan_Plan.pick at h0
        rw [if_neg (Bool.eq_false_iff.mp HT0.out), if_neg (Bool.eq_false_iff.mp HT1.out), if_neg (Bool.eq_false_iff.mp HT2.out), if_neg (Bool.eq_false_iff.mp HT3.out), if_neg (Bool.eq_false_iff.mp HT4.out), if_neg (Bool.eq_false_iff.mp HT5.out), if_neg (Bool.eq_false_iff.mp HT6.out), if_neg (Bool.eq_false_iff.mp HT7.out), if_neg (Bool.eq_false_iff.mp HT8.out), if_neg (Bool.eq_false_iff.mp HT9.out), if_pos HT10.out] at h0
        simp only [Option.some.injEq, Prod.mk.injEq] at h0
        obtain ⟨rfl, rfl, rfl, rfl, rfl, rfl⟩ := h0
        refine bodyPost_ret (results_ct rfl _ _ g2 28 #[.int .i64 10, .int .i64 0, .int .i64 0, .int .i64 0, .int .i64 0] (0, 0) _ rfl B2.out hu28 rfl (by kernel_rfl)) rfl ?_
        exact ⟨rfl, HB.out⟩
      have HT10 := Aside0.mk ht
      clear ht
      rw [rounds_succ]
      go_wp2_with (first
            | ((with_reducible refine gate_dst (N := 19) rfl ?_); refine Kd.event_run (v := .agg #[.func (.func 42) #[] #[.pointer (some ⟨S, 0, none⟩), .pointer (some ⟨G, 0, none⟩)], .int .i64 10, .int .i64 0, .int .i64 0, .int .i64 0, .int .i64 0]) rfl (faultplan_Plan.ldm 36 (.tmp 18) 60 [.func (.func 42) #[] #[.pointer (some ⟨S, 0, none⟩), .pointer (some ⟨G, 0, none⟩)], .int .i64 10, .int .i64 0, .int .i64 0, .int .i64 0, .int .i64 0] _ rfl rfl BR.out rfl hu36 (by kernel_rfl)) ?_)
            | ((with_reducible refine gate_dst (N := 6) rfl ?_); refine box_event ?hg (N := 6) ?hd (cs := #[.nilFunc, .int .i64 0, .int .i64 0, .int .i64 0, .int .i64 0, .int .i64 0]) (t := 36) ?hr ?_; (case hd => rfl); (case hg => rfl); (case hr => first | (go_simp; done) | (go_simp; rfl)); intro gr hg w7 hbox hb; have GR : Aside0 (w.heap.size ≤ gr) := Aside0.mk (by rw [hg]; exact below_size HB.out); have BRR := Aside0.mk hbox; have NEBK := Aside0.mk (Nat.ne_of_lt (Nat.lt_of_lt_of_eq (blk_lt BK.out) hg.symm)); have NEBO := Aside0.mk (Nat.ne_of_lt (Nat.lt_of_lt_of_eq (blk_lt BO.out) hg.symm)); have NEBP := Aside0.mk (Nat.ne_of_lt (Nat.lt_of_lt_of_eq (blk_lt BP.out) hg.symm)); have NEBS := Aside0.mk (Nat.ne_of_lt (Nat.lt_of_lt_of_eq (blk_lt BS.out) hg.symm)); have NEBR := Aside0.mk (Nat.ne_of_lt (Nat.lt_of_lt_of_eq (blk_lt BR.out) hg.symm)); have NEB2 := Aside0.mk (Nat.ne_of_lt (Nat.lt_of_lt_of_eq (blk_lt B2.out) hg.symm)); have m0_ := Aside0.mk (blk_below BK.out hb); have m1_ := Aside0.mk (blk_below BO.out hb); have m2_ := Aside0.mk (blk_below BP.out hb); have m3_ := Aside0.mk (blk_below BS.out hb); have m4_ := Aside0.mk (blk_below BR.out hb); have m5_ := Aside0.mk (blk_below B2.out hb); clear BK BO BP BS BR B2; have BK := m0_; have BO := m1_; have BP := m2_; have BS := m3_; have BR := m4_; have B2 := m5_; clear m0_ m1_ m2_ m3_ m4_ m5_; have n0_ := Aside0.mk (below_step HB.out hb); clear HB; have HB := n0_; clear n0_; clear hbox hb hg)
            | ((with_reducible refine gate_store (t := 36) (p := 6) rfl ?_); refine faultplan_Plan.st (w0 := w) 36 rfl rfl rfl rfl rfl BRR.out (by kernel_rfl) rfl (by simp [Value.oneCell']) HB.out GR.out ?_; intro w8 hz hb2 hk; clear BRR HB; have BRR := Aside0.mk hz; have HB := Aside0.mk hb2; have m0_ := Aside0.mk (hk _ _ NEBK.out BK.out); have m1_ := Aside0.mk (hk _ _ NEBO.out BO.out); have m2_ := Aside0.mk (hk _ _ NEBP.out BP.out); have m3_ := Aside0.mk (hk _ _ NEBS.out BS.out); have m4_ := Aside0.mk (hk _ _ NEBR.out BR.out); have m5_ := Aside0.mk (hk _ _ NEB2.out B2.out); clear BK BO BP BS BR B2; have BK := m0_; have BO := m1_; have BP := m2_; have BS := m3_; have BR := m4_; have B2 := m5_; clear m0_ m1_ m2_ m3_ m4_ m5_; clear hz hb2 hk GR NEBK NEBO NEBP NEBS NEBR NEB2; have hcr : w8.cell? ⟨gr, 0, none⟩ = some (.func (.func 42) #[] #[.pointer (some ⟨S, 0, none⟩), .pointer (some ⟨G, 0, none⟩)]) := (blk_cell BRR.out 0).trans rfl)
            | (go_at_call 42; (with_reducible refine (faultplan_rules.t10 S G a0_12 s _ ((blk_cell BS.out 0).trans rfl) ((blk_cell BK.out 12).trans rfl)).mono ?_); rintro e9 w9 ⟨rfl, hb⟩; rw [HT10.out]; have mr_ := Aside0.mk (blk_below BRR.out hb); clear BRR hcr; have BRR := mr_; clear mr_; have m0_ := Aside0.mk (blk_below BK.out hb); have m1_ := Aside0.mk (blk_below BO.out hb); have m2_ := Aside0.mk (blk_below BP.out hb); have m3_ := Aside0.mk (blk_below BS.out hb); have m4_ := Aside0.mk (blk_below BR.out hb); have m5_ := Aside0.mk (blk_below B2.out hb); clear BK BO BP BS BR B2; have BK := m0_; have BO := m1_; have BP := m2_; have BS := m3_; have BR := m4_; have B2 := m5_; clear m0_ m1_ m2_ m3_ m4_ m5_; have n0_ := Aside0.mk (below_step HB.out hb); clear HB; have HB := n0_; clear n0_; clear hb))
      clear BRR
      rcases Bool.eq_false_or_eq_true (s) with ht | ht
      · have HT11 := Aside0.mk ht
        clear ht
        rw [rounds_succ]
        go_wp2_with (first
            | ((with_reducible refine gate_dst (N := 19) rfl ?_); refine Kd.event_run (v := .agg #[.func (.func 43) #[] #[.pointer (some ⟨S, 0, none⟩)], .int .i64 11, .int .i64 0, .int .i64 0, .int .i64 0, .int .i64 1]) rfl (faultplan_Plan.ldm 36 (.tmp 18) 66 [.func (.func 43) #[] #[.pointer (some ⟨S, 0, none⟩)], .int .i64 11, .int .i64 0, .int .i64 0, .int .i64 0, .int .i64 1] _ rfl rfl BR.out rfl hu36 (by kernel_rfl)) ?_)
            | ((with_reducible refine gate_dst (N := 6) rfl ?_); refine box_event ?hg (N := 6) ?hd (cs := #[.nilFunc, .int .i64 0, .int .i64 0, .int .i64 0, .int .i64 0, .int .i64 0]) (t := 36) ?hr ?_; (case hd => rfl); (case hg => rfl); (case hr => first | (go_simp; done) | (go_simp; rfl)); intro gr hg w7 hbox hb; have GR : Aside0 (w.heap.size ≤ gr) := Aside0.mk (by rw [hg]; exact below_size HB.out); have BRR := Aside0.mk hbox; have NEBK := Aside0.mk (Nat.ne_of_lt (Nat.lt_of_lt_of_eq (blk_lt BK.out) hg.symm)); have NEBO := Aside0.mk (Nat.ne_of_lt (Nat.lt_of_lt_of_eq (blk_lt BO.out) hg.symm)); have NEBP := Aside0.mk (Nat.ne_of_lt (Nat.lt_of_lt_of_eq (blk_lt BP.out) hg.symm)); have NEBS := Aside0.mk (Nat.ne_of_lt (Nat.lt_of_lt_of_eq (blk_lt BS.out) hg.symm)); have NEBR := Aside0.mk (Nat.ne_of_lt (Nat.lt_of_lt_of_eq (blk_lt BR.out) hg.symm)); have NEB2 := Aside0.mk (Nat.ne_of_lt (Nat.lt_of_lt_of_eq (blk_lt B2.out) hg.symm)); have m0_ := Aside0.mk (blk_below BK.out hb); have m1_ := Aside0.mk (blk_below BO.out hb); have m2_ := Aside0.mk (blk_below BP.out hb); have m3_ := Aside0.mk (blk_below BS.out hb); have m4_ := Aside0.mk (blk_below BR.out hb); have m5_ := Aside0.mk (blk_below B2.out hb); clear BK BO BP BS BR B2; have BK := m0_; have BO := m1_; have BP := m2_; have BS := m3_; have BR := m4_; have B2 := m5_; clear m0_ m1_ m2_ m3_ m4_ m5_; have n0_ := Aside0.mk (below_step HB.out hb); clear HB; have HB := n0_; clear n0_; clear hbox hb hg)
            | ((with_reducible refine gate_store (t := 36) (p := 6) rfl ?_); refine faultplan_Plan.st (w0 := w) 36 rfl rfl rfl rfl rfl BRR.out (by kernel_rfl) rfl (by simp [Value.oneCell']) HB.out GR.out ?_; intro w8 hz hb2 hk; clear BRR HB; have BRR := Aside0.mk hz; have HB := Aside0.mk hb2; have m0_ := Aside0.mk (hk _ _ NEBK.out BK.out); have m1_ := Aside0.mk (hk _ _ NEBO.out BO.out); have m2_ := Aside0.mk (hk _ _ NEBP.out BP.out); have m3_ := Aside0.mk (hk _ _ NEBS.out BS.out); have m4_ := Aside0.mk (hk _ _ NEBR.out BR.out); have m5_ := Aside0.mk (hk _ _ NEB2.out B2.out); clear BK BO BP BS BR B2; have BK := m0_; have BO := m1_; have BP := m2_; have BS := m3_; have BR := m4_; have B2 := m5_; clear m0_ m1_ m2_ m3_ m4_ m5_; clear hz hb2 hk GR NEBK NEBO NEBP NEBS NEBR NEB2; have hcr : w8.cell? ⟨gr, 0, none⟩ = some (.func (.func 43) #[] #[.pointer (some ⟨S, 0, none⟩)]) := (blk_cell BRR.out 0).trans rfl)
            | (go_at_call 43; (with_reducible refine (faultplan_rules.t11 S s _ ((blk_cell BS.out 0).trans rfl)).mono ?_); rintro e9 w9 ⟨rfl, hb⟩; rw [HT11.out]; have mr_ := Aside0.mk (blk_below BRR.out hb); clear BRR hcr; have BRR := mr_; clear mr_; have m0_ := Aside0.mk (blk_below BK.out hb); have m1_ := Aside0.mk (blk_below BO.out hb); have m2_ := Aside0.mk (blk_below BP.out hb); have m3_ := Aside0.mk (blk_below BS.out hb); have m4_ := Aside0.mk (blk_below BR.out hb); have m5_ := Aside0.mk (blk_below B2.out hb); clear BK BO BP BS BR B2; have BK := m0_; have BO := m1_; have BP := m2_; have BS := m3_; have BR := m4_; have B2 := m5_; clear m0_ m1_ m2_ m3_ m4_ m5_; have n0_ := Aside0.mk (below_step HB.out hb); clear HB; have HB := n0_; clear n0_; clear hb)
            | ((with_reducible refine gate_dst (N := 24) rfl ?_); refine Kd.event_run (v := .agg #[.int .i64 11, .int .i64 0, .int .i64 0, .int .i64 0, .int .i64 1]) rfl (faultplan_Plan.ldm 28 (.tmp 23) 1 [.int .i64 11, .int .i64 0, .int .i64 0, .int .i64 0, .int .i64 1] _ rfl rfl BRR.out rfl hu28 (by kernel_rfl)) ?_)
            | ((with_reducible refine gate_store (t := 28) (p := 2) rfl ?_); refine faultplan_Plan.st (w0 := w) 28 rfl rfl rfl rfl rfl B2.out (by kernel_rfl) rfl (by simp [Value.oneCell']) HB.out G2.out ?_; intro wz hz hb hk; clear B2 HB; have B2 := Aside0.mk hz; have HB := Aside0.mk hb; clear hz hb hk))
        have h0 := HPK.out
        unfold faultplan_Plan.pick at h0
        rw [if_neg (Bool.eq_false_iff.mp HT0.out), if_neg (Bool.eq_false_iff.mp HT1.out), if_neg (Bool.eq_false_iff.mp HT2.out), if_neg (Bool.eq_false_iff.mp HT3.out), if_neg (Bool.eq_false_iff.mp HT4.out), if_neg (Bool.eq_false_iff.mp HT5.out), if_neg (Bool.eq_false_iff.mp HT6.out), if_neg (Bool.eq_false_iff.mp HT7.out), if_neg (Bool.eq_false_iff.mp HT8.out), if_neg (Bool.eq_false_iff.mp HT9.out), if_neg (Bool.eq_false_iff.mp HT10.out), if_pos HT11.out] at h0
        simp only [Option.some.injEq, Prod.mk.injEq] at h0
        obtain ⟨rfl, rfl, rfl, rfl, rfl, rfl⟩ := h0
        refine bodyPost_ret (results_ct rfl _ _ g2 28 #[.int .i64 11, .int .i64 0, .int .i64 0, .int .i64 0, .int .i64 1] (0, 0) _ rfl B2.out hu28 rfl (by kernel_rfl)) rfl ?_
        exact ⟨rfl, HB.out⟩
      have HT11 := Aside0.mk ht
      clear ht
      rw [rounds_succ]
      go_wp2_with (first
            | ((with_reducible refine gate_dst (N := 19) rfl ?_); refine Kd.event_run (v := .agg #[.func (.func 43) #[] #[.pointer (some ⟨S, 0, none⟩)], .int .i64 11, .int .i64 0, .int .i64 0, .int .i64 0, .int .i64 1]) rfl (faultplan_Plan.ldm 36 (.tmp 18) 66 [.func (.func 43) #[] #[.pointer (some ⟨S, 0, none⟩)], .int .i64 11, .int .i64 0, .int .i64 0, .int .i64 0, .int .i64 1] _ rfl rfl BR.out rfl hu36 (by kernel_rfl)) ?_)
            | ((with_reducible refine gate_dst (N := 6) rfl ?_); refine box_event ?hg (N := 6) ?hd (cs := #[.nilFunc, .int .i64 0, .int .i64 0, .int .i64 0, .int .i64 0, .int .i64 0]) (t := 36) ?hr ?_; (case hd => rfl); (case hg => rfl); (case hr => first | (go_simp; done) | (go_simp; rfl)); intro gr hg w7 hbox hb; have GR : Aside0 (w.heap.size ≤ gr) := Aside0.mk (by rw [hg]; exact below_size HB.out); have BRR := Aside0.mk hbox; have NEBK := Aside0.mk (Nat.ne_of_lt (Nat.lt_of_lt_of_eq (blk_lt BK.out) hg.symm)); have NEBO := Aside0.mk (Nat.ne_of_lt (Nat.lt_of_lt_of_eq (blk_lt BO.out) hg.symm)); have NEBP := Aside0.mk (Nat.ne_of_lt (Nat.lt_of_lt_of_eq (blk_lt BP.out) hg.symm)); have NEBS := Aside0.mk (Nat.ne_of_lt (Nat.lt_of_lt_of_eq (blk_lt BS.out) hg.symm)); have NEBR := Aside0.mk (Nat.ne_of_lt (Nat.lt_of_lt_of_eq (blk_lt BR.out) hg.symm)); have NEB2 := Aside0.mk (Nat.ne_of_lt (Nat.lt_of_lt_of_eq (blk_lt B2.out) hg.symm)); have m0_ := Aside0.mk (blk_below BK.out hb); have m1_ := Aside0.mk (blk_below BO.out hb); have m2_ := Aside0.mk (blk_below BP.out hb); have m3_ := Aside0.mk (blk_below BS.out hb); have m4_ := Aside0.mk (blk_below BR.out hb); have m5_ := Aside0.mk (blk_below B2.out hb); clear BK BO BP BS BR B2; have BK := m0_; have BO := m1_; have BP := m2_; have BS := m3_; have BR := m4_; have B2 := m5_; clear m0_ m1_ m2_ m3_ m4_ m5_; have n0_ := Aside0.mk (below_step HB.out hb); clear HB; have HB := n0_; clear n0_; clear hbox hb hg)
            | ((with_reducible refine gate_store (t := 36) (p := 6) rfl ?_); refine faultplan_Plan.st (w0 := w) 36 rfl rfl rfl rfl rfl BRR.out (by kernel_rfl) rfl (by simp [Value.oneCell']) HB.out GR.out ?_; intro w8 hz hb2 hk; clear BRR HB; have BRR := Aside0.mk hz; have HB := Aside0.mk hb2; have m0_ := Aside0.mk (hk _ _ NEBK.out BK.out); have m1_ := Aside0.mk (hk _ _ NEBO.out BO.out); have m2_ := Aside0.mk (hk _ _ NEBP.out BP.out); have m3_ := Aside0.mk (hk _ _ NEBS.out BS.out); have m4_ := Aside0.mk (hk _ _ NEBR.out BR.out); have m5_ := Aside0.mk (hk _ _ NEB2.out B2.out); clear BK BO BP BS BR B2; have BK := m0_; have BO := m1_; have BP := m2_; have BS := m3_; have BR := m4_; have B2 := m5_; clear m0_ m1_ m2_ m3_ m4_ m5_; clear hz hb2 hk GR NEBK NEBO NEBP NEBS NEBR NEB2; have hcr : w8.cell? ⟨gr, 0, none⟩ = some (.func (.func 43) #[] #[.pointer (some ⟨S, 0, none⟩)]) := (blk_cell BRR.out 0).trans rfl)
            | (go_at_call 43; (with_reducible refine (faultplan_rules.t11 S s _ ((blk_cell BS.out 0).trans rfl)).mono ?_); rintro e9 w9 ⟨rfl, hb⟩; rw [HT11.out]; have mr_ := Aside0.mk (blk_below BRR.out hb); clear BRR hcr; have BRR := mr_; clear mr_; have m0_ := Aside0.mk (blk_below BK.out hb); have m1_ := Aside0.mk (blk_below BO.out hb); have m2_ := Aside0.mk (blk_below BP.out hb); have m3_ := Aside0.mk (blk_below BS.out hb); have m4_ := Aside0.mk (blk_below BR.out hb); have m5_ := Aside0.mk (blk_below B2.out hb); clear BK BO BP BS BR B2; have BK := m0_; have BO := m1_; have BP := m2_; have BS := m3_; have BR := m4_; have B2 := m5_; clear m0_ m1_ m2_ m3_ m4_ m5_; have n0_ := Aside0.mk (below_step HB.out hb); clear HB; have HB := n0_; clear n0_; clear hb))
      clear BRR
      rcases Bool.eq_false_or_eq_true (!a0_4) with ht | ht
      · have HT12 := Aside0.mk ht
        clear ht
        rw [rounds_succ]
        go_wp2_with (first
            | ((with_reducible refine gate_dst (N := 19) rfl ?_); refine Kd.event_run (v := .agg #[.func (.func 44) #[] #[.pointer (some ⟨G, 0, none⟩)], .int .i64 3, .int .i64 0, .int .i64 0, .int .i64 a0_16, .int .i64 1]) rfl (faultplan_Plan.ldm 36 (.tmp 18) 72 [.func (.func 44) #[] #[.pointer (some ⟨G, 0, none⟩)], .int .i64 3, .int .i64 0, .int .i64 0, .int .i64 a0_16, .int .i64 1] _ rfl rfl BR.out rfl hu36 (by kernel_rfl)) ?_)
            | ((with_reducible refine gate_dst (N := 6) rfl ?_); refine box_event ?hg (N := 6) ?hd (cs := #[.nilFunc, .int .i64 0, .int .i64 0, .int .i64 0, .int .i64 0, .int .i64 0]) (t := 36) ?hr ?_; (case hd => rfl); (case hg => rfl); (case hr => first | (go_simp; done) | (go_simp; rfl)); intro gr hg w7 hbox hb; have GR : Aside0 (w.heap.size ≤ gr) := Aside0.mk (by rw [hg]; exact below_size HB.out); have BRR := Aside0.mk hbox; have NEBK := Aside0.mk (Nat.ne_of_lt (Nat.lt_of_lt_of_eq (blk_lt BK.out) hg.symm)); have NEBO := Aside0.mk (Nat.ne_of_lt (Nat.lt_of_lt_of_eq (blk_lt BO.out) hg.symm)); have NEBP := Aside0.mk (Nat.ne_of_lt (Nat.lt_of_lt_of_eq (blk_lt BP.out) hg.symm)); have NEBS := Aside0.mk (Nat.ne_of_lt (Nat.lt_of_lt_of_eq (blk_lt BS.out) hg.symm)); have NEBR := Aside0.mk (Nat.ne_of_lt (Nat.lt_of_lt_of_eq (blk_lt BR.out) hg.symm)); have NEB2 := Aside0.mk (Nat.ne_of_lt (Nat.lt_of_lt_of_eq (blk_lt B2.out) hg.symm)); have m0_ := Aside0.mk (blk_below BK.out hb); have m1_ := Aside0.mk (blk_below BO.out hb); have m2_ := Aside0.mk (blk_below BP.out hb); have m3_ := Aside0.mk (blk_below BS.out hb); have m4_ := Aside0.mk (blk_below BR.out hb); have m5_ := Aside0.mk (blk_below B2.out hb); clear BK BO BP BS BR B2; have BK := m0_; have BO := m1_; have BP := m2_; have BS := m3_; have BR := m4_; have B2 := m5_; clear m0_ m1_ m2_ m3_ m4_ m5_; have n0_ := Aside0.mk (below_step HB.out hb); clear HB; have HB := n0_; clear n0_; clear hbox hb hg)
            | ((with_reducible refine gate_store (t := 36) (p := 6) rfl ?_); refine faultplan_Plan.st (w0 := w) 36 rfl rfl rfl rfl rfl BRR.out (by kernel_rfl) rfl (by simp [Value.oneCell']) HB.out GR.out ?_; intro w8 hz hb2 hk; clear BRR HB; have BRR := Aside0.mk hz; have HB := Aside0.mk hb2; have m0_ := Aside0.mk (hk _ _ NEBK.out BK.out); have m1_ := Aside0.mk (hk _ _ NEBO.out BO.out); have m2_ := Aside0.mk (hk _ _ NEBP.out BP.out); have m3_ := Aside0.mk (hk _ _ NEBS.out BS.out); have m4_ := Aside0.mk (hk _ _ NEBR.out BR.out); have m5_ := Aside0.mk (hk _ _ NEB2.out B2.out); clear BK BO BP BS BR B2; have BK := m0_; have BO := m1_; have BP := m2_; have BS := m3_; have BR := m4_; have B2 := m5_; clear m0_ m1_ m2_ m3_ m4_ m5_; clear hz hb2 hk GR NEBK NEBO NEBP NEBS NEBR NEB2; have hcr : w8.cell? ⟨gr, 0, none⟩ = some (.func (.func 44) #[] #[.pointer (some ⟨G, 0, none⟩)]) := (blk_cell BRR.out 0).trans rfl)
            | (go_at_call 44; (with_reducible refine (faultplan_rules.t12 G a0_4 _ ((blk_cell BK.out 4).trans rfl)).mono ?_); rintro e9 w9 ⟨rfl, hb⟩; rw [HT12.out]; have mr_ := Aside0.mk (blk_below BRR.out hb); clear BRR hcr; have BRR := mr_; clear mr_; have m0_ := Aside0.mk (blk_below BK.out hb); have m1_ := Aside0.mk (blk_below BO.out hb); have m2_ := Aside0.mk (blk_below BP.out hb); have m3_ := Aside0.mk (blk_below BS.out hb); have m4_ := Aside0.mk (blk_below BR.out hb); have m5_ := Aside0.mk (blk_below B2.out hb); clear BK BO BP BS BR B2; have BK := m0_; have BO := m1_; have BP := m2_; have BS := m3_; have BR := m4_; have B2 := m5_; clear m0_ m1_ m2_ m3_ m4_ m5_; have n0_ := Aside0.mk (below_step HB.out hb); clear HB; have HB := n0_; clear n0_; clear hb)
            | ((with_reducible refine gate_dst (N := 24) rfl ?_); refine Kd.event_run (v := .agg #[.int .i64 3, .int .i64 0, .int .i64 0, .int .i64 a0_16, .int .i64 1]) rfl (faultplan_Plan.ldm 28 (.tmp 23) 1 [.int .i64 3, .int .i64 0, .int .i64 0, .int .i64 a0_16, .int .i64 1] _ rfl rfl BRR.out rfl hu28 (by kernel_rfl)) ?_)
            | ((with_reducible refine gate_store (t := 28) (p := 2) rfl ?_); refine faultplan_Plan.st (w0 := w) 28 rfl rfl rfl rfl rfl B2.out (by kernel_rfl) rfl (by simp [Value.oneCell']) HB.out G2.out ?_; intro wz hz hb hk; clear B2 HB; have B2 := Aside0.mk hz; have HB := Aside0.mk hb; clear hz hb hk))
        have h0 := HPK.out
        unfold faultplan_Plan.pick at h0
        rw [if_neg (Bool.eq_false_iff.mp HT0.out), if_neg (Bool.eq_false_iff.mp HT1.out), if_neg (Bool.eq_false_iff.mp HT2.out), if_neg (Bool.eq_false_iff.mp HT3.out), if_neg (Bool.eq_false_iff.mp HT4.out), if_neg (Bool.eq_false_iff.mp HT5.out), if_neg (Bool.eq_false_iff.mp HT6.out), if_neg (Bool.eq_false_iff.mp HT7.out), if_neg (Bool.eq_false_iff.mp HT8.out), if_neg (Bool.eq_false_iff.mp HT9.out), if_neg (Bool.eq_false_iff.mp HT10.out), if_neg (Bool.eq_false_iff.mp HT11.out), if_pos HT12.out] at h0
        simp only [Option.some.injEq, Prod.mk.injEq] at h0
        obtain ⟨rfl, rfl, rfl, rfl, rfl, rfl⟩ := h0
        refine bodyPost_ret (results_ct rfl _ _ g2 28 #[.int .i64 3, .int .i64 0, .int .i64 0, .int .i64 a0_16, .int .i64 1] (0, 0) _ rfl B2.out hu28 rfl (by kernel_rfl)) rfl ?_
        exact ⟨rfl, HB.out⟩
      have HT12 := Aside0.mk ht
      clear ht
      rw [rounds_succ]
      go_wp2_with (first
            | ((with_reducible refine gate_dst (N := 19) rfl ?_); refine Kd.event_run (v := .agg #[.func (.func 44) #[] #[.pointer (some ⟨G, 0, none⟩)], .int .i64 3, .int .i64 0, .int .i64 0, .int .i64 a0_16, .int .i64 1]) rfl (faultplan_Plan.ldm 36 (.tmp 18) 72 [.func (.func 44) #[] #[.pointer (some ⟨G, 0, none⟩)], .int .i64 3, .int .i64 0, .int .i64 0, .int .i64 a0_16, .int .i64 1] _ rfl rfl BR.out rfl hu36 (by kernel_rfl)) ?_)
            | ((with_reducible refine gate_dst (N := 6) rfl ?_); refine box_event ?hg (N := 6) ?hd (cs := #[.nilFunc, .int .i64 0, .int .i64 0, .int .i64 0, .int .i64 0, .int .i64 0]) (t := 36) ?hr ?_; (case hd => rfl); (case hg => rfl); (case hr => first | (go_simp; done) | (go_simp; rfl)); intro gr hg w7 hbox hb; have GR : Aside0 (w.heap.size ≤ gr) := Aside0.mk (by rw [hg]; exact below_size HB.out); have BRR := Aside0.mk hbox; have NEBK := Aside0.mk (Nat.ne_of_lt (Nat.lt_of_lt_of_eq (blk_lt BK.out) hg.symm)); have NEBO := Aside0.mk (Nat.ne_of_lt (Nat.lt_of_lt_of_eq (blk_lt BO.out) hg.symm)); have NEBP := Aside0.mk (Nat.ne_of_lt (Nat.lt_of_lt_of_eq (blk_lt BP.out) hg.symm)); have NEBS := Aside0.mk (Nat.ne_of_lt (Nat.lt_of_lt_of_eq (blk_lt BS.out) hg.symm)); have NEBR := Aside0.mk (Nat.ne_of_lt (Nat.lt_of_lt_of_eq (blk_lt BR.out) hg.symm)); have NEB2 := Aside0.mk (Nat.ne_of_lt (Nat.lt_of_lt_of_eq (blk_lt B2.out) hg.symm)); have m0_ := Aside0.mk (blk_below BK.out hb); have m1_ := Aside0.mk (blk_below BO.out hb); have m2_ := Aside0.mk (blk_below BP.out hb); have m3_ := Aside0.mk (blk_below BS.out hb); have m4_ := Aside0.mk (blk_below BR.out hb); have m5_ := Aside0.mk (blk_below B2.out hb); clear BK BO BP BS BR B2; have BK := m0_; have BO := m1_; have BP := m2_; have BS := m3_; have BR := m4_; have B2 := m5_; clear m0_ m1_ m2_ m3_ m4_ m5_; have n0_ := Aside0.mk (below_step HB.out hb); clear HB; have HB := n0_; clear n0_; clear hbox hb hg)
            | ((with_reducible refine gate_store (t := 36) (p := 6) rfl ?_); refine faultplan_Plan.st (w0 := w) 36 rfl rfl rfl rfl rfl BRR.out (by kernel_rfl) rfl (by simp [Value.oneCell']) HB.out GR.out ?_; intro w8 hz hb2 hk; clear BRR HB; have BRR := Aside0.mk hz; have HB := Aside0.mk hb2; have m0_ := Aside0.mk (hk _ _ NEBK.out BK.out); have m1_ := Aside0.mk (hk _ _ NEBO.out BO.out); have m2_ := Aside0.mk (hk _ _ NEBP.out BP.out); have m3_ := Aside0.mk (hk _ _ NEBS.out BS.out); have m4_ := Aside0.mk (hk _ _ NEBR.out BR.out); have m5_ := Aside0.mk (hk _ _ NEB2.out B2.out); clear BK BO BP BS BR B2; have BK := m0_; have BO := m1_; have BP := m2_; have BS := m3_; have BR := m4_; have B2 := m5_; clear m0_ m1_ m2_ m3_ m4_ m5_; clear hz hb2 hk GR NEBK NEBO NEBP NEBS NEBR NEB2; have hcr : w8.cell? ⟨gr, 0, none⟩ = some (.func (.func 44) #[] #[.pointer (some ⟨G, 0, none⟩)]) := (blk_cell BRR.out 0).trans rfl)
            | (go_at_call 44; (with_reducible refine (faultplan_rules.t12 G a0_4 _ ((blk_cell BK.out 4).trans rfl)).mono ?_); rintro e9 w9 ⟨rfl, hb⟩; rw [HT12.out]; have mr_ := Aside0.mk (blk_below BRR.out hb); clear BRR hcr; have BRR := mr_; clear mr_; have m0_ := Aside0.mk (blk_below BK.out hb); have m1_ := Aside0.mk (blk_below BO.out hb); have m2_ := Aside0.mk (blk_below BP.out hb); have m3_ := Aside0.mk (blk_below BS.out hb); have m4_ := Aside0.mk (blk_below BR.out hb); have m5_ := Aside0.mk (blk_below B2.out hb); clear BK BO BP BS BR B2; have BK := m0_; have BO := m1_; have BP := m2_; have BS := m3_; have BR := m4_; have B2 := m5_; clear m0_ m1_ m2_ m3_ m4_ m5_; have n0_ := Aside0.mk (below_step HB.out hb); clear HB; have HB := n0_; clear n0_; clear hb))
      clear BRR
      rcases Bool.eq_false_or_eq_true (a0_12) with ht | ht
      · have HT13 := Aside0.mk ht
        clear ht
        rw [rounds_succ]
        go_wp2_with (first
            | ((with_reducible refine gate_dst (N := 19) rfl ?_); refine Kd.event_run (v := .agg #[.func (.func 45) #[] #[.pointer (some ⟨G, 0, none⟩)], .int .i64 6, .int .i64 0, .int .i64 0, .int .i64 a0_16, .int .i64 0]) rfl (faultplan_Plan.ldm 36 (.tmp 18) 78 [.func (.func 45) #[] #[.pointer (some ⟨G, 0, none⟩)], .int .i64 6, .int .i64 0, .int .i64 0, .int .i64 a0_16, .int .i64 0] _ rfl rfl BR.out rfl hu36 (by kernel_rfl)) ?_)
            | ((with_reducible refine gate_dst (N := 6) rfl ?_); refine box_event ?hg (N := 6) ?hd (cs := #[.nilFunc, .int .i64 0, .int .i64 0, .int .i64 0, .int .i64 0, .int .i64 0]) (t := 36) ?hr ?_; (case hd => rfl); (case hg => rfl); (case hr => first | (go_simp; done) | (go_simp; rfl)); intro gr hg w7 hbox hb; have GR : Aside0 (w.heap.size ≤ gr) := Aside0.mk (by rw [hg]; exact below_size HB.out); have BRR := Aside0.mk hbox; have NEBK := Aside0.mk (Nat.ne_of_lt (Nat.lt_of_lt_of_eq (blk_lt BK.out) hg.symm)); have NEBO := Aside0.mk (Nat.ne_of_lt (Nat.lt_of_lt_of_eq (blk_lt BO.out) hg.symm)); have NEBP := Aside0.mk (Nat.ne_of_lt (Nat.lt_of_lt_of_eq (blk_lt BP.out) hg.symm)); have NEBS := Aside0.mk (Nat.ne_of_lt (Nat.lt_of_lt_of_eq (blk_lt BS.out) hg.symm)); have NEBR := Aside0.mk (Nat.ne_of_lt (Nat.lt_of_lt_of_eq (blk_lt BR.out) hg.symm)); have NEB2 := Aside0.mk (Nat.ne_of_lt (Nat.lt_of_lt_of_eq (blk_lt B2.out) hg.symm)); have m0_ := Aside0.mk (blk_below BK.out hb); have m1_ := Aside0.mk (blk_below BO.out hb); have m2_ := Aside0.mk (blk_below BP.out hb); have m3_ := Aside0.mk (blk_below BS.out hb); have m4_ := Aside0.mk (blk_below BR.out hb); have m5_ := Aside0.mk (blk_below B2.out hb); clear BK BO BP BS BR B2; have BK := m0_; have BO := m1_; have BP := m2_; have BS := m3_; have BR := m4_; have B2 := m5_; clear m0_ m1_ m2_ m3_ m4_ m5_; have n0_ := Aside0.mk (below_step HB.out hb); clear HB; have HB := n0_; clear n0_; clear hbox hb hg)
            | ((with_reducible refine gate_store (t := 36) (p := 6) rfl ?_); refine faultplan_Plan.st (w0 := w) 36 rfl rfl rfl rfl rfl BRR.out (by kernel_rfl) rfl (by simp [Value.oneCell']) HB.out GR.out ?_; intro w8 hz hb2 hk; clear BRR HB; have BRR := Aside0.mk hz; have HB := Aside0.mk hb2; have m0_ := Aside0.mk (hk _ _ NEBK.out BK.out); have m1_ := Aside0.mk (hk _ _ NEBO.out BO.out); have m2_ := Aside0.mk (hk _ _ NEBP.out BP.out); have m3_ := Aside0.mk (hk _ _ NEBS.out BS.out); have m4_ := Aside0.mk (hk _ _ NEBR.out BR.out); have m5_ := Aside0.mk (hk _ _ NEB2.out B2.out); clear BK BO BP BS BR B2; have BK := m0_; have BO := m1_; have BP := m2_; have BS := m3_; have BR := m4_; have B2 := m5_; clear m0_ m1_ m2_ m3_ m4_ m5_; clear hz hb2 hk GR NEBK NEBO NEBP NEBS NEBR NEB2; have hcr : w8.cell? ⟨gr, 0, none⟩ = some (.func (.func 45) #[] #[.pointer (some ⟨G, 0, none⟩)]) := (blk_cell BRR.out 0).trans rfl)
            | (go_at_call 45; (with_reducible refine (faultplan_rules.t13 G a0_12 _ ((blk_cell BK.out 12).trans rfl)).mono ?_); rintro e9 w9 ⟨rfl, hb⟩; rw [HT13.out]; have mr_ := Aside0.mk (blk_below BRR.out hb); clear BRR hcr; have BRR := mr_; clear mr_; have m0_ := Aside0.mk (blk_below BK.out hb); have m1_ := Aside0.mk (blk_below BO.out hb); have m2_ := Aside0.mk (blk_below BP.out hb); have m3_ := Aside0.mk (blk_below BS.out hb); have m4_ := Aside0.mk (blk_below BR.out hb); have m5_ := Aside0.mk (blk_below B2.out hb); clear BK BO BP BS BR B2; have BK := m0_; have BO := m1_; have BP := m2_; have BS := m3_; have BR := m4_; have B2 := m5_; clear m0_ m1_ m2_ m3_ m4_ m5_; have n0_ := Aside0.mk (below_step HB.out hb); clear HB; have HB := n0_; clear n0_; clear hb)
            | ((with_reducible refine gate_dst (N := 24) rfl ?_); refine Kd.event_run (v := .agg #[.int .i64 6, .int .i64 0, .int .i64 0, .int .i64 a0_16, .int .i64 0]) rfl (faultplan_Plan.ldm 28 (.tmp 23) 1 [.int .i64 6, .int .i64 0, .int .i64 0, .int .i64 a0_16, .int .i64 0] _ rfl rfl BRR.out rfl hu28 (by kernel_rfl)) ?_)
            | ((with_reducible refine gate_store (t := 28) (p := 2) rfl ?_); refine faultplan_Plan.st (w0 := w) 28 rfl rfl rfl rfl rfl B2.out (by kernel_rfl) rfl (by simp [Value.oneCell']) HB.out G2.out ?_; intro wz hz hb hk; clear B2 HB; have B2 := Aside0.mk hz; have HB := Aside0.mk hb; clear hz hb hk))
        have h0 := HPK.out
        unfold faultplan_Plan.pick at h0
        rw [if_neg (Bool.eq_false_iff.mp HT0.out), if_neg (Bool.eq_false_iff.mp HT1.out), if_neg (Bool.eq_false_iff.mp HT2.out), if_neg (Bool.eq_false_iff.mp HT3.out), if_neg (Bool.eq_false_iff.mp HT4.out), if_neg (Bool.eq_false_iff.mp HT5.out), if_neg (Bool.eq_false_iff.mp HT6.out), if_neg (Bool.eq_false_iff.mp HT7.out), if_neg (Bool.eq_false_iff.mp HT8.out), if_neg (Bool.eq_false_iff.mp HT9.out), if_neg (Bool.eq_false_iff.mp HT10.out), if_neg (Bool.eq_false_iff.mp HT11.out), if_neg (Bool.eq_false_iff.mp HT12.out), if_pos HT13.out] at h0
        simp only [Option.some.injEq, Prod.mk.injEq] at h0
        obtain ⟨rfl, rfl, rfl, rfl, rfl, rfl⟩ := h0
        refine bodyPost_ret (results_ct rfl _ _ g2 28 #[.int .i64 6, .int .i64 0, .int .i64 0, .int .i64 a0_16, .int .i64 0] (0, 0) _ rfl B2.out hu28 rfl (by kernel_rfl)) rfl ?_
        exact ⟨rfl, HB.out⟩
      have HT13 := Aside0.mk ht
      clear ht
      rw [rounds_succ]
      go_wp2_with (first
            | ((with_reducible refine gate_dst (N := 19) rfl ?_); refine Kd.event_run (v := .agg #[.func (.func 45) #[] #[.pointer (some ⟨G, 0, none⟩)], .int .i64 6, .int .i64 0, .int .i64 0, .int .i64 a0_16, .int .i64 0]) rfl (faultplan_Plan.ldm 36 (.tmp 18) 78 [.func (.func 45) #[] #[.pointer (some ⟨G, 0, none⟩)], .int .i64 6, .int .i64 0, .int .i64 0, .int .i64 a0_16, .int .i64 0] _ rfl rfl BR.out rfl hu36 (by kernel_rfl)) ?_)
            | ((with_reducible refine gate_dst (N := 6) rfl ?_); refine box_event ?hg (N := 6) ?hd (cs := #[.nilFunc, .int .i64 0, .int .i64 0, .int .i64 0, .int .i64 0, .int .i64 0]) (t := 36) ?hr ?_; (case hd => rfl); (case hg => rfl); (case hr => first | (go_simp; done) | (go_simp; rfl)); intro gr hg w7 hbox hb; have GR : Aside0 (w.heap.size ≤ gr) := Aside0.mk (by rw [hg]; exact below_size HB.out); have BRR := Aside0.mk hbox; have NEBK := Aside0.mk (Nat.ne_of_lt (Nat.lt_of_lt_of_eq (blk_lt BK.out) hg.symm)); have NEBO := Aside0.mk (Nat.ne_of_lt (Nat.lt_of_lt_of_eq (blk_lt BO.out) hg.symm)); have NEBP := Aside0.mk (Nat.ne_of_lt (Nat.lt_of_lt_of_eq (blk_lt BP.out) hg.symm)); have NEBS := Aside0.mk (Nat.ne_of_lt (Nat.lt_of_lt_of_eq (blk_lt BS.out) hg.symm)); have NEBR := Aside0.mk (Nat.ne_of_lt (Nat.lt_of_lt_of_eq (blk_lt BR.out) hg.symm)); have NEB2 := Aside0.mk (Nat.ne_of_lt (Nat.lt_of_lt_of_eq (blk_lt B2.out) hg.symm)); have m0_ := Aside0.mk (blk_below BK.out hb); have m1_ := Aside0.mk (blk_below BO.out hb); have m2_ := Aside0.mk (blk_below BP.out hb); have m3_ := Aside0.mk (blk_below BS.out hb); have m4_ := Aside0.mk (blk_below BR.out hb); have m5_ := Aside0.mk (blk_below B2.out hb); clear BK BO BP BS BR B2; have BK := m0_; have BO := m1_; have BP := m2_; have BS := m3_; have BR := m4_; have B2 := m5_; clear m0_ m1_ m2_ m3_ m4_ m5_; have n0_ := Aside0.mk (below_step HB.out hb); clear HB; have HB := n0_; clear n0_; clear hbox hb hg)
            | ((with_reducible refine gate_store (t := 36) (p := 6) rfl ?_); refine faultplan_Plan.st (w0 := w) 36 rfl rfl rfl rfl rfl BRR.out (by kernel_rfl) rfl (by simp [Value.oneCell']) HB.out GR.out ?_; intro w8 hz hb2 hk; clear BRR HB; have BRR := Aside0.mk hz; have HB := Aside0.mk hb2; have m0_ := Aside0.mk (hk _ _ NEBK.out BK.out); have m1_ := Aside0.mk (hk _ _ NEBO.out BO.out); have m2_ := Aside0.mk (hk _ _ NEBP.out BP.out); have m3_ := Aside0.mk (hk _ _ NEBS.out BS.out); have m4_ := Aside0.mk (hk _ _ NEBR.out BR.out); have m5_ := Aside0.mk (hk _ _ NEB2.out B2.out); clear BK BO BP BS BR B2; have BK := m0_; have BO := m1_; have BP := m2_; have BS := m3_; have BR := m4_; have B2 := m5_; clear m0_ m1_ m2_ m3_ m4_ m5_; clear hz hb2 hk GR NEBK NEBO NEBP NEBS NEBR NEB2; have hcr : w8.cell? ⟨gr, 0, none⟩ = some (.func (.func 45) #[] #[.pointer (some ⟨G, 0, none⟩)]) := (blk_cell BRR.out 0).trans rfl)
            | (go_at_call 45; (with_reducible refine (faultplan_rules.t13 G a0_12 _ ((blk_cell BK.out 12).trans rfl)).mono ?_); rintro e9 w9 ⟨rfl, hb⟩; rw [HT13.out]; have mr_ := Aside0.mk (blk_below BRR.out hb); clear BRR hcr; have BRR := mr_; clear mr_; have m0_ := Aside0.mk (blk_below BK.out hb); have m1_ := Aside0.mk (blk_below BO.out hb); have m2_ := Aside0.mk (blk_below BP.out hb); have m3_ := Aside0.mk (blk_below BS.out hb); have m4_ := Aside0.mk (blk_below BR.out hb); have m5_ := Aside0.mk (blk_below B2.out hb); clear BK BO BP BS BR B2; have BK := m0_; have BO := m1_; have BP := m2_; have BS := m3_; have BR := m4_; have B2 := m5_; clear m0_ m1_ m2_ m3_ m4_ m5_; have n0_ := Aside0.mk (below_step HB.out hb); clear HB; have HB := n0_; clear n0_; clear hb))
      clear BRR
      rcases Bool.eq_false_or_eq_true (!a0_13) with ht | ht
      · have HT14 := Aside0.mk ht
        clear ht
        rw [rounds_succ]
        go_wp2_with (first
            | ((with_reducible refine gate_dst (N := 19) rfl ?_); refine Kd.event_run (v := .agg #[.func (.func 46) #[] #[.pointer (some ⟨G, 0, none⟩)], .int .i64 4, .int .i64 0, .int .i64 0, .int .i64 a0_16, .int .i64 1]) rfl (faultplan_Plan.ldm 36 (.tmp 18) 84 [.func (.func 46) #[] #[.pointer (some ⟨G, 0, none⟩)], .int .i64 4, .int .i64 0, .int .i64 0, .int .i64 a0_16, .int .i64 1] _ rfl rfl BR.out rfl hu36 (by kernel_rfl)) ?_)
            | ((with_reducible refine gate_dst (N := 6) rfl ?_); refine box_event ?hg (N := 6) ?hd (cs := #[.nilFunc, .int .i64 0, .int .i64 0, .int .i64 0, .int .i64 0, .int .i64 0]) (t := 36) ?hr ?_; (case hd => rfl); (case hg => rfl); (case hr => first | (go_simp; done) | (go_simp; rfl)); intro gr hg w7 hbox hb; have GR : Aside0 (w.heap.size ≤ gr) := Aside0.mk (by rw [hg]; exact below_size HB.out); have BRR := Aside0.mk hbox; have NEBK := Aside0.mk (Nat.ne_of_lt (Nat.lt_of_lt_of_eq (blk_lt BK.out) hg.symm)); have NEBO := Aside0.mk (Nat.ne_of_lt (Nat.lt_of_lt_of_eq (blk_lt BO.out) hg.symm)); have NEBP := Aside0.mk (Nat.ne_of_lt (Nat.lt_of_lt_of_eq (blk_lt BP.out) hg.symm)); have NEBS := Aside0.mk (Nat.ne_of_lt (Nat.lt_of_lt_of_eq (blk_lt BS.out) hg.symm)); have NEBR := Aside0.mk (Nat.ne_of_lt (Nat.lt_of_lt_of_eq (blk_lt BR.out) hg.symm)); have NEB2 := Aside0.mk (Nat.ne_of_lt (Nat.lt_of_lt_of_eq (blk_lt B2.out) hg.symm)); have m0_ := Aside0.mk (blk_below BK.out hb); have m1_ := Aside0.mk (blk_below BO.out hb); have m2_ := Aside0.mk (blk_below BP.out hb); have m3_ := Aside0.mk (blk_below BS.out hb); have m4_ := Aside0.mk (blk_below BR.out hb); have m5_ := Aside0.mk (blk_below B2.out hb); clear BK BO BP BS BR B2; have BK := m0_; have BO := m1_; have BP := m2_; have BS := m3_; have BR := m4_; have B2 := m5_; clear m0_ m1_ m2_ m3_ m4_ m5_; have n0_ := Aside0.mk (below_step HB.out hb); clear HB; have HB := n0_; clear n0_; clear hbox hb hg)
            | ((with_reducible refine gate_store (t := 36) (p := 6) rfl ?_); refine faultplan_Plan.st (w0 := w) 36 rfl rfl rfl rfl rfl BRR.out (by kernel_rfl) rfl (by simp [Value.oneCell']) HB.out GR.out ?_; intro w8 hz hb2 hk; clear BRR HB; have BRR := Aside0.mk hz; have HB := Aside0.mk hb2; have m0_ := Aside0.mk (hk _ _ NEBK.out BK.out); have m1_ := Aside0.mk (hk _ _ NEBO.out BO.out); have m2_ := Aside0.mk (hk _ _ NEBP.out BP.out); have m3_ := Aside0.mk (hk _ _ NEBS.out BS.out); have m4_ := Aside0.mk (hk _ _ NEBR.out BR.out); have m5_ := Aside0.mk (hk _ _ NEB2.out B2.out); clear BK BO BP BS BR B2; have BK := m0_; have BO := m1_; have BP := m2_; have BS := m3_; have BR := m4_; have B2 := m5_; clear m0_ m1_ m2_ m3_ m4_ m5_; clear hz hb2 hk GR NEBK NEBO NEBP NEBS NEBR NEB2; have hcr : w8.cell? ⟨gr, 0, none⟩ = some (.func (.func 46) #[] #[.pointer (some ⟨G, 0, none⟩)]) := (blk_cell BRR.out 0).trans rfl)
            | (go_at_call 46; (with_reducible refine (faultplan_rules.t14 G a0_13 _ ((blk_cell BK.out 13).trans rfl)).mono ?_); rintro e9 w9 ⟨rfl, hb⟩; rw [HT14.out]; have mr_ := Aside0.mk (blk_below BRR.out hb); clear BRR hcr; have BRR := mr_; clear mr_; have m0_ := Aside0.mk (blk_below BK.out hb); have m1_ := Aside0.mk (blk_below BO.out hb); have m2_ := Aside0.mk (blk_below BP.out hb); have m3_ := Aside0.mk (blk_below BS.out hb); have m4_ := Aside0.mk (blk_below BR.out hb); have m5_ := Aside0.mk (blk_below B2.out hb); clear BK BO BP BS BR B2; have BK := m0_; have BO := m1_; have BP := m2_; have BS := m3_; have BR := m4_; have B2 := m5_; clear m0_ m1_ m2_ m3_ m4_ m5_; have n0_ := Aside0.mk (below_step HB.out hb); clear HB; have HB := n0_; clear n0_; clear hb)
            | ((with_reducible refine gate_dst (N := 24) rfl ?_); refine Kd.event_run (v := .agg #[.int .i64 4, .int .i64 0, .int .i64 0, .int .i64 a0_16, .int .i64 1]) rfl (faultplan_Plan.ldm 28 (.tmp 23) 1 [.int .i64 4, .int .i64 0, .int .i64 0, .int .i64 a0_16, .int .i64 1] _ rfl rfl BRR.out rfl hu28 (by kernel_rfl)) ?_)
            | ((with_reducible refine gate_store (t := 28) (p := 2) rfl ?_); refine faultplan_Plan.st (w0 := w) 28 rfl rfl rfl rfl rfl B2.out (by kernel_rfl) rfl (by simp [Value.oneCell']) HB.out G2.out ?_; intro wz hz hb hk; clear B2 HB; have B2 := Aside0.mk hz; have HB := Aside0.mk hb; clear hz hb hk))
        have h0 := HPK.out
        unfold faultplan_Plan.pick at h0
        rw [if_neg (Bool.eq_false_iff.mp HT0.out), if_neg (Bool.eq_false_iff.mp HT1.out), if_neg (Bool.eq_false_iff.mp HT2.out), if_neg (Bool.eq_false_iff.mp HT3.out), if_neg (Bool.eq_false_iff.mp HT4.out), if_neg (Bool.eq_false_iff.mp HT5.out), if_neg (Bool.eq_false_iff.mp HT6.out), if_neg (Bool.eq_false_iff.mp HT7.out), if_neg (Bool.eq_false_iff.mp HT8.out), if_neg (Bool.eq_false_iff.mp HT9.out), if_neg (Bool.eq_false_iff.mp HT10.out), if_neg (Bool.eq_false_iff.mp HT11.out), if_neg (Bool.eq_false_iff.mp HT12.out), if_neg (Bool.eq_false_iff.mp HT13.out), if_pos HT14.out] at h0
        simp only [Option.some.injEq, Prod.mk.injEq] at h0
        obtain ⟨rfl, rfl, rfl, rfl, rfl, rfl⟩ := h0
        refine bodyPost_ret (results_ct rfl _ _ g2 28 #[.int .i64 4, .int .i64 0, .int .i64 0, .int .i64 a0_16, .int .i64 1] (0, 0) _ rfl B2.out hu28 rfl (by kernel_rfl)) rfl ?_
        exact ⟨rfl, HB.out⟩
      have HT14 := Aside0.mk ht
      clear ht
      rw [rounds_succ]
      go_wp2_with (first
            | ((with_reducible refine gate_dst (N := 19) rfl ?_); refine Kd.event_run (v := .agg #[.func (.func 46) #[] #[.pointer (some ⟨G, 0, none⟩)], .int .i64 4, .int .i64 0, .int .i64 0, .int .i64 a0_16, .int .i64 1]) rfl (faultplan_Plan.ldm 36 (.tmp 18) 84 [.func (.func 46) #[] #[.pointer (some ⟨G, 0, none⟩)], .int .i64 4, .int .i64 0, .int .i64 0, .int .i64 a0_16, .int .i64 1] _ rfl rfl BR.out rfl hu36 (by kernel_rfl)) ?_)
            | ((with_reducible refine gate_dst (N := 6) rfl ?_); refine box_event ?hg (N := 6) ?hd (cs := #[.nilFunc, .int .i64 0, .int .i64 0, .int .i64 0, .int .i64 0, .int .i64 0]) (t := 36) ?hr ?_; (case hd => rfl); (case hg => rfl); (case hr => first | (go_simp; done) | (go_simp; rfl)); intro gr hg w7 hbox hb; have GR : Aside0 (w.heap.size ≤ gr) := Aside0.mk (by rw [hg]; exact below_size HB.out); have BRR := Aside0.mk hbox; have NEBK := Aside0.mk (Nat.ne_of_lt (Nat.lt_of_lt_of_eq (blk_lt BK.out) hg.symm)); have NEBO := Aside0.mk (Nat.ne_of_lt (Nat.lt_of_lt_of_eq (blk_lt BO.out) hg.symm)); have NEBP := Aside0.mk (Nat.ne_of_lt (Nat.lt_of_lt_of_eq (blk_lt BP.out) hg.symm)); have NEBS := Aside0.mk (Nat.ne_of_lt (Nat.lt_of_lt_of_eq (blk_lt BS.out) hg.symm)); have NEBR := Aside0.mk (Nat.ne_of_lt (Nat.lt_of_lt_of_eq (blk_lt BR.out) hg.symm)); have NEB2 := Aside0.mk (Nat.ne_of_lt (Nat.lt_of_lt_of_eq (blk_lt B2.out) hg.symm)); have m0_ := Aside0.mk (blk_below BK.out hb); have m1_ := Aside0.mk (blk_below BO.out hb); have m2_ := Aside0.mk (blk_below BP.out hb); have m3_ := Aside0.mk (blk_below BS.out hb); have m4_ := Aside0.mk (blk_below BR.out hb); have m5_ := Aside0.mk (blk_below B2.out hb); clear BK BO BP BS BR B2; have BK := m0_; have BO := m1_; have BP := m2_; have BS := m3_; have BR := m4_; have B2 := m5_; clear m0_ m1_ m2_ m3_ m4_ m5_; have n0_ := Aside0.mk (below_step HB.out hb); clear HB; have HB := n0_; clear n0_; clear hbox hb hg)
            | ((with_reducible refine gate_store (t := 36) (p := 6) rfl ?_); refine faultplan_Plan.st (w0 := w) 36 rfl rfl rfl rfl rfl BRR.out (by kernel_rfl) rfl (by simp [Value.oneCell']) HB.out GR.out ?_; intro w8 hz hb2 hk; clear BRR HB; have BRR := Aside0.mk hz; have HB := Aside0.mk hb2; have m0_ := Aside0.mk (hk _ _ NEBK.out BK.out); have m1_ := Aside0.mk (hk _ _ NEBO.out BO.out); have m2_ := Aside0.mk (hk _ _ NEBP.out BP.out); have m3_ := Aside0.mk (hk _ _ NEBS.out BS.out); have m4_ := Aside0.mk (hk _ _ NEBR.out BR.out); have m5_ := Aside0.mk (hk _ _ NEB2.out B2.out); clear BK BO BP BS BR B2; have BK := m0_; have BO := m1_; have BP := m2_; have BS := m3_; have BR := m4_; have B2 := m5_; clear m0_ m1_ m2_ m3_ m4_ m5_; clear hz hb2 hk GR NEBK NEBO NEBP NEBS NEBR NEB2; have hcr : w8.cell? ⟨gr, 0, none⟩ = some (.func (.func 46) #[] #[.pointer (some ⟨G, 0, none⟩)]) := (blk_cell BRR.out 0).trans rfl)
            | (go_at_call 46; (with_reducible refine (faultplan_rules.t14 G a0_13 _ ((blk_cell BK.out 13).trans rfl)).mono ?_); rintro e9 w9 ⟨rfl, hb⟩; rw [HT14.out]; have mr_ := Aside0.mk (blk_below BRR.out hb); clear BRR hcr; have BRR := mr_; clear mr_; have m0_ := Aside0.mk (blk_below BK.out hb); have m1_ := Aside0.mk (blk_below BO.out hb); have m2_ := Aside0.mk (blk_below BP.out hb); have m3_ := Aside0.mk (blk_below BS.out hb); have m4_ := Aside0.mk (blk_below BR.out hb); have m5_ := Aside0.mk (blk_below B2.out hb); clear BK BO BP BS BR B2; have BK := m0_; have BO := m1_; have BP := m2_; have BS := m3_; have BR := m4_; have B2 := m5_; clear m0_ m1_ m2_ m3_ m4_ m5_; have n0_ := Aside0.mk (below_step HB.out hb); clear HB; have HB := n0_; clear n0_; clear hb))
      clear BRR
      rw [rounds_succ]
      go_wp2_with (first
            | ((with_reducible refine gate_dst (N := 19) rfl ?_); refine Kd.event_run (v := .agg #[.func (.func 47) #[] #[], .int .i64 5, .int .i64 0, .int .i64 0, .int .i64 0, .int .i64 1]) rfl (faultplan_Plan.ldm 36 (.tmp 18) 90 [.func (.func 47) #[] #[], .int .i64 5, .int .i64 0, .int .i64 0, .int .i64 0, .int .i64 1] _ rfl rfl BR.out rfl hu36 (by kernel_rfl)) ?_)
            | ((with_reducible refine gate_dst (N := 6) rfl ?_); refine box_event ?hg (N := 6) ?hd (cs := #[.nilFunc, .int .i64 0, .int .i64 0, .int .i64 0, .int .i64 0, .int .i64 0]) (t := 36) ?hr ?_; (case hd => rfl); (case hg => rfl); (case hr => first | (go_simp; done) | (go_simp; rfl)); intro gr hg w7 hbox hb; have GR : Aside0 (w.heap.size ≤ gr) := Aside0.mk (by rw [hg]; exact below_size HB.out); have BRR := Aside0.mk hbox; have NEBK := Aside0.mk (Nat.ne_of_lt (Nat.lt_of_lt_of_eq (blk_lt BK.out) hg.symm)); have NEBO := Aside0.mk (Nat.ne_of_lt (Nat.lt_of_lt_of_eq (blk_lt BO.out) hg.symm)); have NEBP := Aside0.mk (Nat.ne_of_lt (Nat.lt_of_lt_of_eq (blk_lt BP.out) hg.symm)); have NEBS := Aside0.mk (Nat.ne_of_lt (Nat.lt_of_lt_of_eq (blk_lt BS.out) hg.symm)); have NEBR := Aside0.mk (Nat.ne_of_lt (Nat.lt_of_lt_of_eq (blk_lt BR.out) hg.symm)); have NEB2 := Aside0.mk (Nat.ne_of_lt (Nat.lt_of_lt_of_eq (blk_lt B2.out) hg.symm)); have m0_ := Aside0.mk (blk_below BK.out hb); have m1_ := Aside0.mk (blk_below BO.out hb); have m2_ := Aside0.mk (blk_below BP.out hb); have m3_ := Aside0.mk (blk_below BS.out hb); have m4_ := Aside0.mk (blk_below BR.out hb); have m5_ := Aside0.mk (blk_below B2.out hb); clear BK BO BP BS BR B2; have BK := m0_; have BO := m1_; have BP := m2_; have BS := m3_; have BR := m4_; have B2 := m5_; clear m0_ m1_ m2_ m3_ m4_ m5_; have n0_ := Aside0.mk (below_step HB.out hb); clear HB; have HB := n0_; clear n0_; clear hbox hb hg)
            | ((with_reducible refine gate_store (t := 36) (p := 6) rfl ?_); refine faultplan_Plan.st (w0 := w) 36 rfl rfl rfl rfl rfl BRR.out (by kernel_rfl) rfl (by simp [Value.oneCell']) HB.out GR.out ?_; intro w8 hz hb2 hk; clear BRR HB; have BRR := Aside0.mk hz; have HB := Aside0.mk hb2; have m0_ := Aside0.mk (hk _ _ NEBK.out BK.out); have m1_ := Aside0.mk (hk _ _ NEBO.out BO.out); have m2_ := Aside0.mk (hk _ _ NEBP.out BP.out); have m3_ := Aside0.mk (hk _ _ NEBS.out BS.out); have m4_ := Aside0.mk (hk _ _ NEBR.out BR.out); have m5_ := Aside0.mk (hk _ _ NEB2.out B2.out); clear BK BO BP BS BR B2; have BK := m0_; have BO := m1_; have BP := m2_; have BS := m3_; have BR := m4_; have B2 := m5_; clear m0_ m1_ m2_ m3_ m4_ m5_; clear hz hb2 hk GR NEBK NEBO NEBP NEBS NEBR NEB2; have hcr : w8.cell? ⟨gr, 0, none⟩ = some (.func (.func 47) #[] #[]) := (blk_cell BRR.out 0).trans rfl)
            | (go_at_call 47; (with_reducible refine (faultplan_rules.t15   _ ).mono ?_); rintro e9 w9 ⟨rfl, hb⟩; have mr_ := Aside0.mk (blk_below BRR.out hb); clear BRR hcr; have BRR := mr_; clear mr_; have m0_ := Aside0.mk (blk_below BK.out hb); have m1_ := Aside0.mk (blk_below BO.out hb); have m2_ := Aside0.mk (blk_below BP.out hb); have m3_ := Aside0.mk (blk_below BS.out hb); have m4_ := Aside0.mk (blk_below BR.out hb); have m5_ := Aside0.mk (blk_below B2.out hb); clear BK BO BP BS BR B2; have BK := m0_; have BO := m1_; have BP := m2_; have BS := m3_; have BR := m4_; have B2 := m5_; clear m0_ m1_ m2_ m3_ m4_ m5_; have n0_ := Aside0.mk (below_step HB.out hb); clear HB; have HB := n0_; clear n0_; clear hb)
            | ((with_reducible refine gate_dst (N := 24) rfl ?_); refine Kd.event_run (v := .agg #[.int .i64 5, .int .i64 0, .int .i64 0, .int .i64 0, .int .i64 1]) rfl (faultplan_Plan.ldm 28 (.tmp 23) 1 [.int .i64 5, .int .i64 0, .int .i64 0, .int .i64 0, .int .i64 1] _ rfl rfl BRR.out rfl hu28 (by kernel_rfl)) ?_)
            | ((with_reducible refine gate_store (t := 28) (p := 2) rfl ?_); refine faultplan_Plan.st (w0 := w) 28 rfl rfl rfl rfl rfl B2.out (by kernel_rfl) rfl (by simp [Value.oneCell']) HB.out G2.out ?_; intro wz hz hb hk; clear B2 HB; have B2 := Aside0.mk hz; have HB := Aside0.mk hb; clear hz hb hk))
      have h0 := HPK.out
      unfold faultplan_Plan.pick at h0
      rw [if_neg (Bool.eq_false_iff.mp HT0.out), if_neg (Bool.eq_false_iff.mp HT1.out), if_neg (Bool.eq_false_iff.mp HT2.out), if_neg (Bool.eq_false_iff.mp HT3.out), if_neg (Bool.eq_false_iff.mp HT4.out), if_neg (Bool.eq_false_iff.mp HT5.out), if_neg (Bool.eq_false_iff.mp HT6.out), if_neg (Bool.eq_false_iff.mp HT7.out), if_neg (Bool.eq_false_iff.mp HT8.out), if_neg (Bool.eq_false_iff.mp HT9.out), if_neg (Bool.eq_false_iff.mp HT10.out), if_neg (Bool.eq_false_iff.mp HT11.out), if_neg (Bool.eq_false_iff.mp HT12.out), if_neg (Bool.eq_false_iff.mp HT13.out), if_neg (Bool.eq_false_iff.mp HT14.out), if_pos rfl] at h0
      simp only [Option.some.injEq, Prod.mk.injEq] at h0
      obtain ⟨rfl, rfl, rfl, rfl, rfl, rfl⟩ := h0
      refine bodyPost_ret (results_ct rfl _ _ g2 28 #[.int .i64 5, .int .i64 0, .int .i64 0, .int .i64 0, .int .i64 1] (0, 0) _ rfl B2.out hu28 rfl (by kernel_rfl)) rfl ?_
      exact ⟨rfl, HB.out⟩
    · rw [if_neg hpr] at h3
      cases h3
  · rw [if_neg he] at h2
    simp only [Option.some.injEq, Prod.mk.injEq] at h2
    obtain ⟨rfl, rfl, rfl, rfl, rfl, rfl⟩ := h2
    have he1 : (e != 0) = true := bne_iff_ne.mpr he
    go_enter Try.func13, Try.ntmps13
    go_wp2_with (first
      | ((with_reducible refine gate_store (t := 28) (p := 2) rfl ?_); refine faultplan_Plan.st (w0 := w) 28 rfl rfl rfl rfl rfl B2.out (by kernel_rfl) rfl (by simp [Value.oneCell']) HB.out G2.out ?_; intro wz hz hb hk; clear B2 HB; have B2 := Aside0.mk hz; have HB := Aside0.mk hb; clear hz hb hk)
        | ((with_reducible refine gate_dst (N := 1) rfl ?_); refine box_event ?hg (N := 1) ?hd (cs := #[.bool a0_0, .bool a0_1, .int .i64 a0_2, .bool a0_3, .bool a0_4, .bool a0_5, .bool a0_6, .int .i64 a0_7, .bool a0_8, .bool a0_9, .bool a0_10, .bool a0_11, .bool a0_12, .bool a0_13, .bool a0_14, .bool a0_15, .int .i64 a0_16]) (t := 23) ?hr ?_; (case hd => rfl); (case hg => rfl); (case hr => first | (go_simp; done) | (go_simp; rfl)); intro gb hg w3 hbox hb; have BK := Aside0.mk hbox; have n0_ := Aside0.mk (below_step HB.out hb); clear HB; have HB := n0_; clear n0_; clear hb hbox hg)
        | ((with_reducible refine gate_dst (N := 2) rfl ?_); refine box_event ?hg (N := 2) ?hd (cs := #[.int .i64 0, .int .i64 0, .int .i64 0, .int .i64 0, .int .i64 0]) (t := 28) ?hr ?_; (case hd => rfl); (case hg => rfl); (case hr => first | (go_simp; done) | (go_simp; rfl)); intro g2 hg w4 hbox hb; have G2 : Aside0 (w.heap.size ≤ g2) := Aside0.mk (by rw [hg]; exact below_size HB.out); have m0_ := Aside0.mk (blk_below BK.out hb); have B2 := Aside0.mk hbox; have n0_ := Aside0.mk (below_step HB.out hb); clear HB; have HB := n0_; clear n0_; clear BK hb hbox hg; have BK := m0_; clear m0_)
        | ((with_reducible refine gate_dst (N := 7) rfl ?_); refine Kd.event_run (v := .agg #[.bool a0_0, .bool a0_1, .int .i64 a0_2, .bool a0_3, .bool a0_4, .bool a0_5, .bool a0_6, .int .i64 a0_7, .bool a0_8, .bool a0_9, .bool a0_10, .bool a0_11, .bool a0_12, .bool a0_13, .bool a0_14, .bool a0_15, .int .i64 a0_16]) rfl (faultplan_Plan.ld 23 (.tmp 1) _ rfl rfl BK.out hu23 (by kernel_rfl)) ?_)
        | (go_at_call 10; (with_reducible refine (faultplan_Check.calls k a0_0 a0_1 a0_2 a0_3 a0_4 a0_5 a0_6 a0_7 a0_8 a0_9 a0_10 a0_11 a0_12 a0_13 a0_14 a0_15 a0_16 e _ HC.out).mono ?_); rintro e1 w5 ⟨rfl, hb⟩; have m0_ := Aside0.mk (blk_below BK.out hb); have m1_ := Aside0.mk (blk_below B2.out hb); have n0_ := Aside0.mk (below_step HB.out hb); clear HB; have HB := n0_; clear n0_; clear BK B2 hb; have BK := m0_; have B2 := m1_; clear m0_ m1_))
    refine bodyPost_ret (results_ct rfl _ _ g2 28 #[.int .i64 0, .int .i64 0, .int .i64 0, .int .i64 0, .int .i64 0] (0, 0) _ rfl B2.out hu28 rfl (by kernel_rfl)) rfl ?_
    exact ⟨rfl, HB.out⟩


end Go.Proofs.Ytfobedaepflidaa.F

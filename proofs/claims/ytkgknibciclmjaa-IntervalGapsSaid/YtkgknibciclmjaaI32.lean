-- Written by a program of this session (own_print.py) that runs the kit's printer. Lean checks it.
import Derived.Test.YtkgknibciclmjaaI0
namespace Go.Proofs.Ytkgknibciclmjaa.I
open Go.RowKit Go.Proofs.YtkgknibciclmjaaW.PrintWords Go.Proofs.YtkgknibciclmjaaW.PrintLast Go.Proofs.YtkgknibciclmjaaW.PrintMore
attribute [local go_sem] max2_int min2_int max_two min_two max_three min_three max_four min_four   -- for this text's walks alone
set_option linter.unusedVariables false
set_option linter.unusedSimpArgs false

/-! ### estoversref02_Fits: function 44 -/
def estoversref02_Fits.f (a0_0 : Int) (a0_1 : Int) (a1 : Int) : Option (Bool) := some (decide ((IntKind.u64.wrap ((IntKind.u64.wrap (a0_1)) - (IntKind.u64.wrap (a0_0)))) ≥ (IntKind.u64.wrap (a1))))
set_option maxHeartbeats 8000000 in
set_option maxRecDepth 100000 in
theorem estoversref02_Fits.calls (a0_0 : Int) (a0_1 : Int) (a1 : Int) (r : Bool) (w : World) (h : estoversref02_Fits.f a0_0 a0_1 a1 = some r) :
    Calls Try.prog 44 #[.agg #[.int .i64 a0_0, .int .i64 a0_1], .int .i64 a1] w fun e w' => e = .returned (.bool r) ∧ Below w.heap.size w w' := by
  have hu28 := Try.underlying28
  have HB := Aside0.mk (Below.refl w.heap.size w)
  have H : (some (decide ((IntKind.u64.wrap ((IntKind.u64.wrap (a0_1)) - (IntKind.u64.wrap (a0_0)))) ≥ (IntKind.u64.wrap (a1))))) = some r := h
  clear h
  obtain rfl := Option.some.inj H
  go_enter Try.func44, Try.ntmps44
  go_wp2_with (first | ((with_reducible refine gate_dst (N := 2) rfl ?_); refine box_event ?hg (N := 2) ?hd (cs := #[.int .i64 a0_0, .int .i64 a0_1]) (t := 28) ?hr ?_; (case hd => rfl); (case hg => rfl); (case hr => first | (go_simp; done) | (go_simp; rfl)); intro gb390 hg w3 hbox hb; have n0_ := Aside0.mk (below_step (by repeat (first | (with_reducible first | exact HB.out | apply below_alloc | apply pw_below_drewN | apply below_drew1) | exact HB.out)) hb); have n1_ := Aside0.mk (hbox); have n2_ := Aside0.mk ((by rw [hg]; exact (below_size (by repeat (first | (with_reducible first | exact HB.out | apply below_alloc | apply pw_below_drewN | apply below_drew1) | exact HB.out))) : w.heap.size ≤ gb390)); have n3_ := Aside0.mk ((by rw [hg]; exact (below_size (by repeat (first | (with_reducible first | exact HB.out | apply below_alloc | apply pw_below_drewN | apply below_drew1) | exact HB.out))) : w.heap.size ≤ gb390)); clear HB; have HB := n0_; have BK390 := n1_; have GW390 := n2_; have GE390 := n3_; clear n0_ n1_ n2_ n3_; clear hb hbox hg; have hcz4_0 : w3.cell? ⟨gb390, 0, none⟩ = some (.int .i64 a0_0) := (blk_cell BK390.out 0).trans rfl; have hcz4_1 : w3.cell? ⟨gb390, 1, none⟩ = some (.int .i64 a0_1) := (blk_cell BK390.out 1).trans rfl; have hfz4_0 := blk_frozen BK390.out 0; have hfz4_1 := blk_frozen BK390.out 1))
  go_ret
  exact ⟨by first | rfl | (simp [errW_none, errW_some] <;> rfl) | (simp [*, errW_none, errW_some] <;> rfl), by repeat (first | (with_reducible first | exact HB.out | apply below_alloc | apply pw_below_drewN | apply below_drew1 | refine below_set ?_ GE390.out) | exact HB.out)⟩

end Go.Proofs.Ytkgknibciclmjaa.I

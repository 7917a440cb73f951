-- Written by a program of this session (own_print.py) that runs the kit's printer. Lean checks it.
import Derived.Test.YtfobedaepflidaaF0
import Derived.Test.YtfobedaepflidaaF9
import Derived.Test.YtfobedaepflidaaF11
import Derived.Test.YtfobedaepflidaaF12
import Derived.Test.YtfobedaepflidaaF22
namespace Go.Proofs.Ytfobedaepflidaa.F
open Go.RowKit Go.Proofs.YtfobedaepflidaaW.PrintWords Go.Proofs.YtfobedaepflidaaW.PrintLast Go.Proofs.YtfobedaepflidaaW.PrintMore
attribute [local go_sem] max2_int min2_int max_two min_two max_three min_three max_four min_four   -- for this text's walks alone
set_option linter.unusedVariables false
set_option linter.unusedSimpArgs false

attribute [local go_sem ↓ high] ld23a sv23a
attribute [local go_sem high] ld23 sv23
/-! ### estoverslaw26_FaultplanAfters: function 5 -/
def estoverslaw26_FaultplanAfters.f (k : Nat) (a0_0 : Bool) (a0_1 : Bool) (a0_2 : Int) (a0_3 : Bool) (a0_4 : Bool) (a0_5 : Bool) (a0_6 : Bool) (a0_7 : Int) (a0_8 : Bool) (a0_9 : Bool) (a0_10 : Bool) (a0_11 : Bool) (a0_12 : Bool) (a0_13 : Bool) (a0_14 : Bool) (a0_15 : Bool) (a0_16 : Int) : Option Bool := (faultplan_After.f k a0_0 a0_1 a0_2 a0_3 a0_4 a0_5 a0_6 a0_7 a0_8 a0_9 a0_10 a0_11 a0_12 a0_13 a0_14 a0_15 a0_16).bind fun u => (estoversref26_After.f k a0_0 a0_1 a0_2 a0_3 a0_4 a0_5 a0_6 a0_7 a0_8 a0_9 a0_10 a0_11 a0_12 a0_13 a0_14 a0_15 a0_16).bind fun v => if (u.1 == v.1 && (u.2.1 == v.2.1 && (u.2.2.1 == v.2.2.1 && (u.2.2.2.1 == v.2.2.2.1 && (u.2.2.2.2.1 == v.2.2.2.2.1 && (u.2.2.2.2.2.1 == v.2.2.2.2.2.1 && (u.2.2.2.2.2.2.1 == v.2.2.2.2.2.2.1 && (u.2.2.2.2.2.2.2.1 == v.2.2.2.2.2.2.2.1 && (u.2.2.2.2.2.2.2.2.1 == v.2.2.2.2.2.2.2.2.1 && (u.2.2.2.2.2.2.2.2.2.1 == v.2.2.2.2.2.2.2.2.2.1 && (u.2.2.2.2.2.2.2.2.2.2.1 == v.2.2.2.2.2.2.2.2.2.2.1 && (u.2.2.2.2.2.2.2.2.2.2.2.1 == v.2.2.2.2.2.2.2.2.2.2.2.1 && (u.2.2.2.2.2.2.2.2.2.2.2.2.1 == v.2.2.2.2.2.2.2.2.2.2.2.2.1 && (u.2.2.2.2.2.2.2.2.2.2.2.2.2.1 == v.2.2.2.2.2.2.2.2.2.2.2.2.2.1 && (u.2.2.2.2.2.2.2.2.2.2.2.2.2.2.1 == v.2.2.2.2.2.2.2.2.2.2.2.2.2.2.1 && (u.2.2.2.2.2.2.2.2.2.2.2.2.2.2.2.1 == v.2.2.2.2.2.2.2.2.2.2.2.2.2.2.2.1 && (u.2.2.2.2.2.2.2.2.2.2.2.2.2.2.2.2.1 == v.2.2.2.2.2.2.2.2.2.2.2.2.2.2.2.2.1))))))))))))))))) = true then (if (u.2.2.2.2.2.2.2.2.2.2.2.2.2.2.2.2.2.1 == v.2.2.2.2.2.2.2.2.2.2.2.2.2.2.2.2.2.1) = true then (if u.2.2.2.2.2.2.2.2.2.2.2.2.2.2.2.2.2.2 = v.2.2.2.2.2.2.2.2.2.2.2.2.2.2.2.2.2.2 then estoverslaw26_awake.f k else none) else none) else none
theorem estoverslaw26_FaultplanAfters.mono : ∀ a0 a1 a2 a3 a4 a5 a6 a7 a8 a9 a10 a11 a12 a13 a14 a15 a16 k, LeO (estoverslaw26_FaultplanAfters.f k a0 a1 a2 a3 a4 a5 a6 a7 a8 a9 a10 a11 a12 a13 a14 a15 a16) (estoverslaw26_FaultplanAfters.f (k + 1) a0 a1 a2 a3 a4 a5 a6 a7 a8 a9 a10 a11 a12 a13 a14 a15 a16) := by
  intro a0 a1 a2 a3 a4 a5 a6 a7 a8 a9 a10 a11 a12 a13 a14 a15 a16 k
  unfold estoverslaw26_FaultplanAfters.f
  exact LeO.bind (faultplan_After.mono _ _ _ _ _ _ _ _ _ _ _ _ _ _ _ _ _ _) (fun _ => LeO.bind (estoversref26_After.mono _ _ _ _ _ _ _ _ _ _ _ _ _ _ _ _ _ _) (fun _ => LeO.ite (LeO.ite (LeO.ite (estoverslaw26_awake.mono _) (LeO.none _)) (LeO.none _)) (LeO.none _)))
attribute [local go_sem high] faultplan_After.eq23
set_option maxHeartbeats 16000000 in
set_option maxRecDepth 100000 in
theorem estoverslaw26_FaultplanAfters.calls (k : Nat) (a0_0 : Bool) (a0_1 : Bool) (a0_2 : Int) (a0_3 : Bool) (a0_4 : Bool) (a0_5 : Bool) (a0_6 : Bool) (a0_7 : Int) (a0_8 : Bool) (a0_9 : Bool) (a0_10 : Bool) (a0_11 : Bool) (a0_12 : Bool) (a0_13 : Bool) (a0_14 : Bool) (a0_15 : Bool) (a0_16 : Int) (r : Bool) (w : World) (h : estoverslaw26_FaultplanAfters.f k a0_0 a0_1 a0_2 a0_3 a0_4 a0_5 a0_6 a0_7 a0_8 a0_9 a0_10 a0_11 a0_12 a0_13 a0_14 a0_15 a0_16 = some r) :
    Calls Try.prog 5 #[.agg #[.bool a0_0, .bool a0_1, .int .i64 a0_2, .bool a0_3, .bool a0_4, .bool a0_5, .bool a0_6, .int .i64 a0_7, .bool a0_8, .bool a0_9, .bool a0_10, .bool a0_11, .bool a0_12, .bool a0_13, .bool a0_14, .bool a0_15, .int .i64 a0_16]] w fun e w' => e = .returned (.bool r) ∧ Below w.heap.size w w' := by
  have hu23 := Try.underlying23
  have HB := Aside0.mk (Below.refl w.heap.size w)
  obtain ⟨⟨t0, t1, t2, t3, t4, t5, t6, t7, t8, t9, t10, t11, t12, t13, t14, t15, t16, t17, t18⟩, hf, h2⟩ := Option.bind_eq_some_iff.1 h
  obtain ⟨⟨s0, s1, s2, s3, s4, s5, s6, s7, s8, s9, s10, s11, s12, s13, s14, s15, s16, s17, s18⟩, hg, h3⟩ := Option.bind_eq_some_iff.1 h2
  dsimp only at h3
  by_cases c1 : (t0 == s0 && (t1 == s1 && (t2 == s2 && (t3 == s3 && (t4 == s4 && (t5 == s5 && (t6 == s6 && (t7 == s7 && (t8 == s8 && (t9 == s9 && (t10 == s10 && (t11 == s11 && (t12 == s12 && (t13 == s13 && (t14 == s14 && (t15 == s15 && (t16 == s16))))))))))))))))) = true
  case neg =>
    rw [if_neg c1] at h3
    cases h3
  rw [if_pos c1] at h3
  by_cases c2 : (t17 == s17) = true
  case neg =>
    rw [if_neg c2] at h3
    cases h3
  rw [if_pos c2] at h3
  by_cases c3 : t18 = s18
  case neg =>
    rw [if_neg c3] at h3
    cases h3
  rw [if_pos c3] at h3
  simp only [Bool.and_eq_true, beq_iff_eq] at c1 c2
  obtain ⟨rfl, rfl, rfl, rfl, rfl, rfl, rfl, rfl, rfl, rfl, rfl, rfl, rfl, rfl, rfl, rfl, rfl⟩ := c1
  subst c2
  subst c3
  have HF := Aside0.mk hf
  have HG := Aside0.mk hg
  have HA := Aside0.mk h3
  clear hf hg h3 h h2
  go_enter Try.func5, Try.ntmps5
  go_upto_region 2 with (first
    | ((with_reducible refine gate_dst (N := 1) rfl ?_); refine box_event ?hg (N := 1) ?hd (cs := #[.bool a0_0, .bool a0_1, .int .i64 a0_2, .bool a0_3, .bool a0_4, .bool a0_5, .bool a0_6, .int .i64 a0_7, .bool a0_8, .bool a0_9, .bool a0_10, .bool a0_11, .bool a0_12, .bool a0_13, .bool a0_14, .bool a0_15, .int .i64 a0_16]) (t := 23) ?hr ?_; (case hd => rfl); (case hg => rfl); (case hr => first | (go_simp; done) | (go_simp; rfl)); intro g1 hg w1 hbox hb; have GB1 : Aside0 (w.heap.size ≤ g1) := Aside0.mk (by rw [hg]; exact below_size HB.out); have B1 := Aside0.mk hbox; have n0_ := Aside0.mk (below_step HB.out hb); clear HB; have HB := n0_; clear n0_; clear hbox hb hg)
    | ((with_reducible refine gate_dst (N := 10) rfl ?_); refine Kd.event_run (v := .agg #[.bool a0_0, .bool a0_1, .int .i64 a0_2, .bool a0_3, .bool a0_4, .bool a0_5, .bool a0_6, .int .i64 a0_7, .bool a0_8, .bool a0_9, .bool a0_10, .bool a0_11, .bool a0_12, .bool a0_13, .bool a0_14, .bool a0_15, .int .i64 a0_16]) rfl (faultplan_Plan.ld 23 (.tmp 1) _ rfl rfl B1.out hu23 (by kernel_rfl)) ?_)
    | (go_at_call 15; (with_reducible refine (faultplan_After.calls k a0_0 a0_1 a0_2 a0_3 a0_4 a0_5 a0_6 a0_7 a0_8 a0_9 a0_10 a0_11 a0_12 a0_13 a0_14 a0_15 a0_16 t0 t1 t2 t3 t4 t5 t6 t7 t8 t9 t10 t11 t12 t13 t14 t15 t16 t17 t18 _ HF.out).mono ?_); rintro e4 w4 ⟨rfl, hb⟩; have m0_ := Aside0.mk (blk_below B1.out hb); clear B1; have B1 := m0_; clear m0_; have n0_ := Aside0.mk (below_step HB.out hb); clear HB; have HB := n0_; clear n0_; clear hb)
    | ((with_reducible refine gate_dst (N := 3) rfl ?_); refine box_event ?hg (N := 3) ?hd (cs := #[.bool false, .bool false, .int .i64 0, .bool false, .bool false, .bool false, .bool false, .int .i64 0, .bool false, .bool false, .bool false, .bool false, .bool false, .bool false, .bool false, .bool false, .int .i64 0]) (t := 23) ?hr ?_; (case hd => rfl); (case hg => rfl); (case hr => first | (go_simp; done) | (go_simp; rfl)); intro g3 hg w1 hbox hb; have GB3 : Aside0 (w.heap.size ≤ g3) := Aside0.mk (by rw [hg]; exact below_size HB.out); have NB1B3 := Aside0.mk (Nat.ne_of_lt (Nat.lt_of_lt_of_eq (blk_lt B1.out) hg.symm)); have m0_ := Aside0.mk (blk_below B1.out hb); clear B1; have B1 := m0_; clear m0_; have B3 := Aside0.mk hbox; have n0_ := Aside0.mk (below_step HB.out hb); clear HB; have HB := n0_; clear n0_; clear hbox hb hg)
    | ((with_reducible refine gate_store (t := 23) (p := 3) rfl ?_); refine faultplan_Plan.st (w0 := w) (cs := #[.bool t0, .bool t1, .int .i64 t2, .bool t3, .bool t4, .bool t5, .bool t6, .int .i64 t7, .bool t8, .bool t9, .bool t10, .bool t11, .bool t12, .bool t13, .bool t14, .bool t15, .int .i64 t16]) 23 rfl rfl rfl rfl rfl B3.out (by kernel_rfl) rfl (by simp [Value.oneCell']) HB.out GB3.out ?_; intro w2 hz hb hk; have m0_ := Aside0.mk (hk _ _ NB1B3.out B1.out); clear B1; have B1 := m0_; clear m0_; clear B3 HB; have B3 := Aside0.mk hz; have HB := Aside0.mk hb; clear hz hb hk))
  go_upto_region 3 with (first
    | ((with_reducible refine gate_dst (N := 16) rfl ?_); refine Kd.event_run (v := .agg #[.bool a0_0, .bool a0_1, .int .i64 a0_2, .bool a0_3, .bool a0_4, .bool a0_5, .bool a0_6, .int .i64 a0_7, .bool a0_8, .bool a0_9, .bool a0_10, .bool a0_11, .bool a0_12, .bool a0_13, .bool a0_14, .bool a0_15, .int .i64 a0_16]) rfl (faultplan_Plan.ld 23 (.tmp 1) _ rfl rfl B1.out hu23 (by kernel_rfl)) ?_)
    | (go_at_call 16; (with_reducible refine (estoversref26_After.calls k a0_0 a0_1 a0_2 a0_3 a0_4 a0_5 a0_6 a0_7 a0_8 a0_9 a0_10 a0_11 a0_12 a0_13 a0_14 a0_15 a0_16 t0 t1 t2 t3 t4 t5 t6 t7 t8 t9 t10 t11 t12 t13 t14 t15 t16 t17 t18 _ HG.out).mono ?_); rintro e4 w4 ⟨rfl, hb⟩; have m0_ := Aside0.mk (blk_below B1.out hb); have m1_ := Aside0.mk (blk_below B3.out hb); clear B1 B3; have B1 := m0_; have B3 := m1_; clear m0_ m1_; have n0_ := Aside0.mk (below_step HB.out hb); clear HB; have HB := n0_; clear n0_; clear hb)
    | ((with_reducible refine gate_dst (N := 6) rfl ?_); refine box_event ?hg (N := 6) ?hd (cs := #[.bool false, .bool false, .int .i64 0, .bool false, .bool false, .bool false, .bool false, .int .i64 0, .bool false, .bool false, .bool false, .bool false, .bool false, .bool false, .bool false, .bool false, .int .i64 0]) (t := 23) ?hr ?_; (case hd => rfl); (case hg => rfl); (case hr => first | (go_simp; done) | (go_simp; rfl)); intro g6 hg w1 hbox hb; have GB6 : Aside0 (w.heap.size ≤ g6) := Aside0.mk (by rw [hg]; exact below_size HB.out); have NB1B6 := Aside0.mk (Nat.ne_of_lt (Nat.lt_of_lt_of_eq (blk_lt B1.out) hg.symm)); have NB3B6 := Aside0.mk (Nat.ne_of_lt (Nat.lt_of_lt_of_eq (blk_lt B3.out) hg.symm)); have m0_ := Aside0.mk (blk_below B1.out hb); have m1_ := Aside0.mk (blk_below B3.out hb); clear B1 B3; have B1 := m0_; have B3 := m1_; clear m0_ m1_; have B6 := Aside0.mk hbox; have n0_ := Aside0.mk (below_step HB.out hb); clear HB; have HB := n0_; clear n0_; clear hbox hb hg)
    | ((with_reducible refine gate_store (t := 23) (p := 6) rfl ?_); refine faultplan_Plan.st (w0 := w) (cs := #[.bool t0, .bool t1, .int .i64 t2, .bool t3, .bool t4, .bool t5, .bool t6, .int .i64 t7, .bool t8, .bool t9, .bool t10, .bool t11, .bool t12, .bool t13, .bool t14, .bool t15, .int .i64 t16]) 23 rfl rfl rfl rfl rfl B6.out (by kernel_rfl) rfl (by simp [Value.oneCell']) HB.out GB6.out ?_; intro w2 hz hb hk; have m0_ := Aside0.mk (hk _ _ NB1B6.out B1.out); have m1_ := Aside0.mk (hk _ _ NB3B6.out B3.out); clear B1 B3; have B1 := m0_; have B3 := m1_; clear m0_ m1_; clear B6 HB; have B6 := Aside0.mk hz; have HB := Aside0.mk hb; clear hz hb hk))
  go_wp2_with (first
    | ((with_reducible refine gate_dst (N := 21) rfl ?_); refine Kd.event_run (v := .agg #[.bool t0, .bool t1, .int .i64 t2, .bool t3, .bool t4, .bool t5, .bool t6, .int .i64 t7, .bool t8, .bool t9, .bool t10, .bool t11, .bool t12, .bool t13, .bool t14, .bool t15, .int .i64 t16]) rfl (faultplan_Plan.ld 23 (.tmp 3) _ rfl rfl B3.out hu23 (by kernel_rfl)) ?_)
    | ((with_reducible refine gate_dst (N := 22) rfl ?_); refine Kd.event_run (v := .agg #[.bool t0, .bool t1, .int .i64 t2, .bool t3, .bool t4, .bool t5, .bool t6, .int .i64 t7, .bool t8, .bool t9, .bool t10, .bool t11, .bool t12, .bool t13, .bool t14, .bool t15, .int .i64 t16]) rfl (faultplan_Plan.ld 23 (.tmp 6) _ rfl rfl B6.out hu23 (by kernel_rfl)) ?_)
    | (go_at_call 12; (with_reducible refine (estoverslaw26_awake.calls k r _ HA.out).mono ?_); rintro e4 w4 ⟨rfl, hb⟩; have n0_ := Aside0.mk (below_step HB.out hb); clear HB; have HB := n0_; clear n0_; clear hb))
  go_ret
  exact ⟨by first | rfl | (simp; done), HB.out⟩

end Go.Proofs.Ytfobedaepflidaa.F

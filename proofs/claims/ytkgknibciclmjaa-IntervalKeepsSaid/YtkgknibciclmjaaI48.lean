-- Written by a program of this session (own_print.py) that runs the kit's printer. Lean checks it.
import Derived.Test.YtkgknibciclmjaaI0
import Derived.Test.YtkgknibciclmjaaI3
import Derived.Test.YtkgknibciclmjaaI9
import Derived.Test.YtkgknibciclmjaaI11
import Derived.Test.YtkgknibciclmjaaI13
import Derived.Test.YtkgknibciclmjaaI14
import Derived.Test.YtkgknibciclmjaaI17
import Derived.Test.YtkgknibciclmjaaI30
import Derived.Test.YtkgknibciclmjaaI38
import Derived.Test.YtkgknibciclmjaaI39
import Derived.Test.YtkgknibciclmjaaI47
namespace Go.Proofs.Ytkgknibciclmjaa.I
open Go.RowKit Go.Proofs.YtkgknibciclmjaaW.PrintWords Go.Proofs.YtkgknibciclmjaaW.PrintLast Go.Proofs.YtkgknibciclmjaaW.PrintMore
attribute [local go_sem] max2_int min2_int max_two min_two max_three min_three max_four min_four   -- for this text's walks alone
set_option linter.unusedVariables false
set_option linter.unusedSimpArgs false

/-! ### estoverslaw02_IntervalKeeps: function 10 -/
def estoverslaw02_IntervalKeeps.f (k : Nat) (l0 : List S28) (l1 : List S28) (a2_0 : Int) (a2_1 : Int) : Option Bool := (estoverslaw02_few.f l0 l1).bind fun t => if t = true then ((estoverslaw02_own.f l0).bind fun x => (estoverslaw02_own.f l1).bind fun y => (interval_Union.f k x y).bind fun _ => (interval_Intersect.f k x y).bind fun _ => (interval_Subtract.f k x y).bind fun _ => (interval_Add.f k x a2_0 a2_1).bind fun _ => (interval_Remove.f k x a2_0 a2_1).bind fun _ => (interval_Gaps.f k x a2_0 a2_1).bind fun _ => (estoversref02_Same.f k x l0).bind fun s => (estoversref02_Same.f k y l1).bind fun s2 => if s = true then (if s2 = true then estoverslaw02_awake.f k else none) else none) else estoverslaw02_awake.f k
theorem estoverslaw02_IntervalKeeps.mono : ∀ a0 a1 a2 a3 k, LeO (estoverslaw02_IntervalKeeps.f k a0 a1 a2 a3) (estoverslaw02_IntervalKeeps.f (k + 1) a0 a1 a2 a3) := by
  intro a0 a1 a2 a3 k
  unfold estoverslaw02_IntervalKeeps.f
  exact LeO.bind (LeO.refl _) (fun _ => LeO.ite (LeO.bind (LeO.refl _) (fun _ => LeO.bind (LeO.refl _) (fun _ => LeO.bind (interval_Union.mono _ _ _) (fun _ => LeO.bind (interval_Intersect.mono _ _ _) (fun _ => LeO.bind (interval_Subtract.mono _ _ _) (fun _ => LeO.bind (interval_Add.mono _ _ _ _) (fun _ => LeO.bind (interval_Remove.mono _ _ _ _) (fun _ => LeO.bind (interval_Gaps.mono _ _ _ _) (fun _ => LeO.bind (estoversref02_Same.mono _ _ _) (fun _ => LeO.bind (estoversref02_Same.mono _ _ _) (fun _ => LeO.ite (LeO.ite (estoverslaw02_awake.mono _) (LeO.none _)) (LeO.none _)))))))))))) (estoverslaw02_awake.mono _))
/-- a slice of intervals without a block, or with a row of cells in a block from B on -/
def estoverslaw02_IntervalKeeps.Row (W : World) (B : Nat) (A : Option Addr) (n : Nat) : Prop := (A = none ∧ n = 0) ∨ ∃ g cur, A = some ⟨g, 0, none⟩ ∧ B ≤ g ∧ W.heap[g]? = some (.cells cur 28 (0, 0)) ∧ n * 2 ≤ cur.size ∧ n ≤ 9223372036854775807
theorem estoverslaw02_IntervalKeeps.Row.below {W W1 : World} {B : Nat} {A : Option Addr} {n : Nat} (h : estoverslaw02_IntervalKeeps.Row W B A n) (hb : Below W.heap.size W W1) : estoverslaw02_IntervalKeeps.Row W1 B A n := by
  rcases h with h | ⟨g, cur, hA, hB, hh, hs⟩
  · exact Or.inl h
  · exact Or.inr ⟨g, cur, hA, hB, blk_below hh hb, hs⟩
theorem estoverslaw02_IntervalKeeps.Row.set {W : World} {B : Nat} {A : Option Addr} {n : Nat} (h : estoverslaw02_IntervalKeeps.Row W B A n) {g o : Nat} {cs : Array Value} {seg : List Value} (hg : W.heap[g]? = some (.cells cs 28 (0, 0))) (hs : o + seg.length ≤ cs.size) : estoverslaw02_IntervalKeeps.Row (W.setCells g o seg) B A n := by
  rcases h with h | ⟨g2, cur, hA, hB, hh, hs2⟩
  · exact Or.inl h
  · by_cases e : g2 = g
    · subst e
      rw [hg] at hh
      obtain ⟨cur', h3, h4, _⟩ := setCells_row seg o W cs hg hs
      have hcs : cs = cur := by simpa using hh
      subst hcs
      exact Or.inr ⟨g2, cur', hA, hB, h3, by omega, hs2.2⟩
    · exact Or.inr ⟨g2, cur, hA, hB, (setCells_far seg o g2 e).trans hh, hs2⟩
theorem estoverslaw02_IntervalKeeps.Row.low {W : World} {B B' : Nat} {A : Option Addr} {n : Nat} (h : estoverslaw02_IntervalKeeps.Row W B A n) (hB : B' ≤ B) : estoverslaw02_IntervalKeeps.Row W B' A n := by
  rcases h with h | ⟨g, cur, hA, hb, hh, hs⟩
  · exact Or.inl h
  · exact Or.inr ⟨g, cur, hA, Nat.le_trans hB hb, hh, hs⟩
theorem estoverslaw02_IntervalKeeps.Row.of {W : World} {B : Nat} {ok : Nat → Prop} {v : Value} {xs : List S28} (h : Kd.R k28 28 W B ok v xs) : ∃ A n c, v = .slice A n c ∧ n ≤ c ∧ estoverslaw02_IntervalKeeps.Row W B A n := by
  obtain ⟨_, inner, ho, _⟩ := h
  rcases ho.2 with ⟨rfl, h0⟩ | ⟨g, cap, cur, rfl, hb, hh, hn, hm, hsz, hx⟩
  · exact ⟨none, 0, 0, rfl, Nat.le_refl _, Or.inl ⟨rfl, rfl⟩⟩
  · refine ⟨some ⟨g, 0, none⟩, xs.length, cap, rfl, hn, Or.inr ⟨g, cur, rfl, hb, hh, ?_⟩⟩
    rw [hsz]
    refine ⟨Nat.mul_le_mul_right _ hn, ?_⟩
    simp only [maxLen] at hm
    omega
theorem estoverslaw02_IntervalKeeps.stq {ops : Array Oper} {rest : List Oper} {o : Oper} {a : Act} {Q : Exit → Act → World → Prop} {W : World} {g off : Nat} {cur : Array Value} {p : Tmp} {v : Operand}
    (hgd : o.guard = none) (hN : o.dst = none) (ho : o.op = .store 28 (.tmp p) v) (hp : a.eval (.tmp p) = .pointer (some ⟨g, off, none⟩)) (hv : a.eval v = .agg #[.int .i64 77, .int .i64 (-77)]) (hh : W.heap[g]? = some (.cells cur 28 (0, 0))) (hfit : off + 2 ≤ cur.size)
    (h : ∀ w1, w1 = W.setCells g off [.int .i64 77, .int .i64 (-77)] → wpList Try.prog ops Q rest a w1) : wpList Try.prog ops Q (o :: rest) a W := by
  have hr := run_store_run (P := Try.prog) (w := W) (g := g) (o := off) (e := 28) (cur := cur) 28 (.agg #[.int .i64 77, .int .i64 (-77)]) [.int .i64 77, .int .i64 (-77)] hh rfl (by kernel_rfl) (by simpa using hfit) (by simp [Value.oneCell'])
  refine store_event (w1 := W.setCells g off [.int .i64 77, .int .i64 (-77)]) hgd ho hN ?_ h
  unfold execOp
  simp only [ho, hp, hv, Sem.run_bind, hr, Result.andThen_ok, Sem.run_pure]
theorem estoverslaw02_IntervalKeeps.keep {W w0 : World} {g o : Nat} {seg : List Value} (hb : Below w0.heap.size w0 W) (hle : w0.heap.size ≤ g) : Below w0.heap.size w0 (W.setCells g o seg) := by
  obtain ⟨s1, s2, s3, s4⟩ := setCells_same g seg o W
  exact hb.trans ⟨s1, s2, s3, by rw [s4]; exact Nat.le_refl _, fun k hk => setCells_far _ _ k (by omega)⟩
theorem estoverslaw02_IntervalKeeps.below2 {B : Nat} {w0 W W1 : World} (h : Below B w0 W) (hB : B ≤ W.heap.size) (hb : Below W.heap.size W W1) : Below B w0 W1 ∧ B ≤ W1.heap.size := ⟨below_then h hB hb, Nat.le_trans hB hb.size⟩
set_option maxHeartbeats 16000000 in
set_option maxRecDepth 100000 in
theorem estoverslaw02_IntervalKeeps.calls (k : Nat) (A0 : Option Addr) (c0 : Nat) (l0 : List (S28)) (A1 : Option Addr) (c1 : Nat) (l1 : List (S28)) (a2_0 : Int) (a2_1 : Int) (r : Bool) (w : World) (hr0 : Kd.C k28 w A0 l0.length l0) (hc0 : l0.length ≤ c0) (hr1 : Kd.C k28 w A1 l1.length l1) (hc1 : l1.length ≤ c1) (h : estoverslaw02_IntervalKeeps.f k l0 l1 a2_0 a2_1 = some r) :
    Calls Try.prog 10 #[.slice A0 l0.length c0, .slice A1 l1.length c1, .agg #[.int .i64 a2_0, .int .i64 a2_1]] w fun e w' => e = .returned (.bool r) ∧ Below w.heap.size w w' := by
  have hu28 := Try.underlying28
  have HR0 := Aside0.mk hr0
  have HR1 := Aside0.mk hr1
  have HC0 := Aside0.mk hc0
  have HC1 := Aside0.mk hc1
  have HW0 := HR0
  have HW1 := HR1
  clear hr0 hr1 hc0 hc1
  have HB := Aside0.mk (Below.refl w.heap.size w)
  obtain ⟨t, ht, h2⟩ := Option.bind_eq_some_iff.1 h
  have HT := Aside0.mk ht
  clear h ht
  cases t
  case false =>
    simp only [Bool.false_eq_true, if_false] at h2
    have HA := Aside0.mk h2
    clear h2
    go_enter Try.func10, Try.ntmps10
    go_wp2_with (first
      | ((with_reducible refine gate_dst (N := 5) rfl ?_); refine box_event ?hg (N := 5) ?hd (cs := #[.int .i64 a2_0, .int .i64 a2_1]) (t := 28) ?hr ?_; (case hd => rfl); (case hg => rfl); (case hr => first | (go_simp; done) | (go_simp; rfl)); intro g5 hg w3 hbox hb; have BI := Aside0.mk hbox; have m0_ := Aside0.mk (Kd.C_below HR0.out hb); have m1_ := Aside0.mk (Kd.C_below HR1.out hb); clear HR0 HR1; have HR0 := m0_; have HR1 := m1_; clear m0_ m1_; have n0_ := Aside0.mk (below_step HB.out hb); clear HB; have HB := n0_; clear n0_; clear hbox hb hg)
      | (go_at_call 11; (with_reducible refine (estoverslaw02_few.calls A0 c0 l0 A1 c1 l1 false _ HR0.out HC0.out HR1.out HC1.out HT.out).mono ?_); rintro e4 w4 ⟨rfl, hd⟩; have hb := hd.below; have m0_ := Aside0.mk (Kd.C_below HR0.out hb); have m1_ := Aside0.mk (Kd.C_below HR1.out hb); have m2_ := Aside0.mk (blk_below BI.out hb); clear HR0 HR1 BI; have HR0 := m0_; have HR1 := m1_; have BI := m2_; clear m0_ m1_ m2_; have n0_ := Aside0.mk (below_step HB.out hb); clear HB; have HB := n0_; clear n0_; clear hb hd)
      | (go_at_call 12; (with_reducible refine (estoverslaw02_awake.calls k r _ HA.out).mono ?_); rintro e4 w4 ⟨rfl, hb⟩; have n0_ := Aside0.mk (below_step HB.out hb); clear HB; have HB := n0_; clear n0_; clear hb))
    go_ret
    exact ⟨rfl, HB.out⟩
  case true =>
  rw [if_pos rfl] at h2
  obtain ⟨x, hx, h2⟩ := Option.bind_eq_some_iff.1 h2
  obtain ⟨y, hy, h2⟩ := Option.bind_eq_some_iff.1 h2
  obtain ⟨⟨z5, y5⟩, h5, h2⟩ := Option.bind_eq_some_iff.1 h2
  obtain ⟨⟨z6, y6⟩, h6, h2⟩ := Option.bind_eq_some_iff.1 h2
  obtain ⟨⟨z7, y7⟩, h7, h2⟩ := Option.bind_eq_some_iff.1 h2
  obtain ⟨⟨z8, y8⟩, h8, h2⟩ := Option.bind_eq_some_iff.1 h2
  obtain ⟨⟨z9, y9⟩, h9, h2⟩ := Option.bind_eq_some_iff.1 h2
  obtain ⟨⟨z10, y10⟩, h10, h2⟩ := Option.bind_eq_some_iff.1 h2
  obtain ⟨s, hs, h2⟩ := Option.bind_eq_some_iff.1 h2
  obtain ⟨s2, hs2, h2⟩ := Option.bind_eq_some_iff.1 h2
  cases s
  case false => simp at h2
  rw [if_pos rfl] at h2
  cases s2
  case false => simp at h2
  rw [if_pos rfl] at h2
  have AX := Aside0.mk hx; have AY := Aside0.mk hy; have A5 := Aside0.mk h5; have A6 := Aside0.mk h6; have A7 := Aside0.mk h7; have A8 := Aside0.mk h8; have A9 := Aside0.mk h9; have A10 := Aside0.mk h10
  have SX := Aside0.mk hs; have SY := Aside0.mk hs2; have HA := Aside0.mk h2
  clear hx hy h5 h6 h7 h8 h9 h10 hs hs2 h2
  go_enter Try.func10, Try.ntmps10
  go_upto_region 4 with (first
    | ((with_reducible refine gate_dst (N := 5) rfl ?_); refine box_event ?hg (N := 5) ?hd (cs := #[.int .i64 a2_0, .int .i64 a2_1]) (t := 28) ?hr ?_; (case hd => rfl); (case hg => rfl); (case hr => first | (go_simp; done) | (go_simp; rfl)); intro g5 hg w3 hbox hb; have BI := Aside0.mk hbox; have m0_ := Aside0.mk (Kd.C_below HR0.out hb); have m1_ := Aside0.mk (Kd.C_below HR1.out hb); clear HR0 HR1; have HR0 := m0_; have HR1 := m1_; clear m0_ m1_; have n0_ := Aside0.mk (below_step HB.out hb); clear HB; have HB := n0_; clear n0_; clear hbox hb hg)
    | (go_at_call 11; (with_reducible refine (estoverslaw02_few.calls A0 c0 l0 A1 c1 l1 true _ HR0.out HC0.out HR1.out HC1.out HT.out).mono ?_); rintro e4 w4 ⟨rfl, hd⟩; have hb := hd.below; have m0_ := Aside0.mk (Kd.C_below HR0.out hb); have m1_ := Aside0.mk (Kd.C_below HR1.out hb); have m2_ := Aside0.mk (blk_below BI.out hb); clear HR0 HR1 BI; have HR0 := m0_; have HR1 := m1_; have BI := m2_; clear m0_ m1_ m2_; have n0_ := Aside0.mk (below_step HB.out hb); clear HB; have HB := n0_; clear n0_; clear hb hd)
    | (go_at_call 34; (with_reducible refine (estoverslaw02_own.calls A0 c0 l0 x _ HR0.out HC0.out AX.out).mono ?_); rintro e5 w5 ⟨vx, rfl, hR, hb⟩; have m0_ := Aside0.mk (Kd.C_below HR0.out hb); have m1_ := Aside0.mk (Kd.C_below HR1.out hb); have m2_ := Aside0.mk (blk_below BI.out hb); clear HR0 HR1 BI; have HR0 := m0_; have HR1 := m1_; have BI := m2_; clear m0_ m1_ m2_; have n0_ := Aside0.mk (below_step HB.out hb); clear HB; have HB := n0_; clear n0_; obtain ⟨AX0, cx0, rfl, hlx, hCx⟩ := Kd.R_reads hR; have HX := Aside0.mk hCx; have HLX := Aside0.mk hlx; clear hb hR hCx hlx)
    | (go_at_call 34; (with_reducible refine (estoverslaw02_own.calls A1 c1 l1 y _ HR1.out HC1.out AY.out).mono ?_); rintro e5 w5 ⟨vy, rfl, hR, hb⟩; have m0_ := Aside0.mk (Kd.C_below HR0.out hb); have m1_ := Aside0.mk (Kd.C_below HR1.out hb); have m2_ := Aside0.mk (blk_below BI.out hb); have m3_ := Aside0.mk (Kd.C_below HX.out hb); clear HR0 HR1 BI HX; have HR0 := m0_; have HR1 := m1_; have BI := m2_; have HX := m3_; clear m0_ m1_ m2_ m3_; have n0_ := Aside0.mk (below_step HB.out hb); clear HB; have HB := n0_; clear n0_; obtain ⟨AY0, cy0, rfl, hly, hCy⟩ := Kd.R_reads hR; have HY := Aside0.mk hCy; have HLY := Aside0.mk hly; clear hb hR hCy hly))
  have HQ := Aside0.mk (Below.refl w5.heap.size w5)
  have HX5 := HX
  have HS5 := Aside0.mk HB.out.size
  have HY5 := HY
  clear HT AX AY
  go_upto_region 5 with (first
    | (go_at_call 28; (refine (interval_Union.calls k _ _ _ x _ _ _ y z5 y5 _ (Kd.V_mk HLX.out (Kd.C_F k28_heap HX.out)) (Kd.V_mk HLY.out (Kd.C_F k28_heap HY.out)) A5.out).mono ?_); rintro e6 w6 ⟨v, rfl, hR, hb⟩; obtain ⟨B5, n5, d5, rfl, hn, hr⟩ := estoverslaw02_IntervalKeeps.Row.of hR; have RW5 := Aside0.mk (estoverslaw02_IntervalKeeps.Row.low hr HQ.out.size); have HN5 := Aside0.mk hn; have m0_ := Aside0.mk (Kd.C_below HR0.out hb); have m1_ := Aside0.mk (Kd.C_below HR1.out hb); have m2_ := Aside0.mk (blk_below BI.out hb); have m3_ := Aside0.mk (Kd.C_below HX.out hb); have m4_ := Aside0.mk (Kd.C_below HY.out hb); clear HR0 HR1 BI HX HY; have HR0 := m0_; have HR1 := m1_; have BI := m2_; have HX := m3_; have HY := m4_; clear m0_ m1_ m2_ m3_ m4_; have n0_ := Aside0.mk (below_step HB.out hb); clear HB; have HB := n0_; clear n0_; have n0_ := Aside0.mk (below_step HQ.out hb); clear HQ; have HQ := n0_; clear n0_ hb hR hr hn))
  go_upto_region 6 with (first
    | (go_at_call 29; (refine (interval_Intersect.calls k _ _ _ x _ _ _ y z6 y6 _ (Kd.V_mk HLX.out (Kd.C_F k28_heap HX.out)) (Kd.V_mk HLY.out (Kd.C_F k28_heap HY.out)) A6.out).mono ?_); rintro e6 w6 ⟨v, rfl, hR, hb⟩; obtain ⟨B6, n6, d6, rfl, hn, hr⟩ := estoverslaw02_IntervalKeeps.Row.of hR; have RW6 := Aside0.mk (estoverslaw02_IntervalKeeps.Row.low hr HQ.out.size); have HN6 := Aside0.mk hn; have m0_ := Aside0.mk (Kd.C_below HR0.out hb); have m1_ := Aside0.mk (Kd.C_below HR1.out hb); have m2_ := Aside0.mk (blk_below BI.out hb); have m3_ := Aside0.mk (Kd.C_below HX.out hb); have m4_ := Aside0.mk (Kd.C_below HY.out hb); have m5_ := Aside0.mk (estoverslaw02_IntervalKeeps.Row.below RW5.out hb); clear HR0 HR1 BI HX HY RW5; have HR0 := m0_; have HR1 := m1_; have BI := m2_; have HX := m3_; have HY := m4_; have RW5 := m5_; clear m0_ m1_ m2_ m3_ m4_ m5_; have n0_ := Aside0.mk (below_step HB.out hb); clear HB; have HB := n0_; clear n0_; have n0_ := Aside0.mk (below_step HQ.out hb); clear HQ; have HQ := n0_; clear n0_ hb hR hr hn))
  go_upto_region 7 with (first
    | (go_at_call 30; (refine (interval_Subtract.calls k _ _ x _ _ y z7 y7 _ HX.out HLX.out HY.out HLY.out A7.out).mono ?_); rintro e6 w6 ⟨v, rfl, hR, hb⟩; obtain ⟨B7, n7, d7, rfl, hn, hr⟩ := estoverslaw02_IntervalKeeps.Row.of hR; have RW7 := Aside0.mk (estoverslaw02_IntervalKeeps.Row.low hr HQ.out.size); have HN7 := Aside0.mk hn; have m0_ := Aside0.mk (Kd.C_below HR0.out hb); have m1_ := Aside0.mk (Kd.C_below HR1.out hb); have m2_ := Aside0.mk (blk_below BI.out hb); have m3_ := Aside0.mk (Kd.C_below HX.out hb); have m4_ := Aside0.mk (Kd.C_below HY.out hb); have m5_ := Aside0.mk (estoverslaw02_IntervalKeeps.Row.below RW5.out hb); have m6_ := Aside0.mk (estoverslaw02_IntervalKeeps.Row.below RW6.out hb); clear HR0 HR1 BI HX HY RW5 RW6; have HR0 := m0_; have HR1 := m1_; have BI := m2_; have HX := m3_; have HY := m4_; have RW5 := m5_; have RW6 := m6_; clear m0_ m1_ m2_ m3_ m4_ m5_ m6_; have n0_ := Aside0.mk (below_step HB.out hb); clear HB; have HB := n0_; clear n0_; have n0_ := Aside0.mk (below_step HQ.out hb); clear HQ; have HQ := n0_; clear n0_ hb hR hr hn))
  have hi0 := (blk_cell BI.out 0).trans (rfl : _ = some (Value.int .i64 a2_0))
  have hi1 := (blk_cell BI.out 1).trans (rfl : _ = some (Value.int .i64 a2_1))
  go_upto_region 8 with (first
    | (go_at_call 17; (refine (interval_Add.calls k _ _ x a2_0 a2_1 z8 y8 _ HX.out HLX.out A8.out).mono ?_); rintro e6 w6 ⟨v, rfl, hR, hb⟩; obtain ⟨B8, n8, d8, rfl, hn, hr⟩ := estoverslaw02_IntervalKeeps.Row.of hR; have RW8 := Aside0.mk (estoverslaw02_IntervalKeeps.Row.low hr HQ.out.size); have HN8 := Aside0.mk hn; have m0_ := Aside0.mk (Kd.C_below HR0.out hb); have m1_ := Aside0.mk (Kd.C_below HR1.out hb); have m2_ := Aside0.mk (blk_below BI.out hb); have m3_ := Aside0.mk (Kd.C_below HX.out hb); have m4_ := Aside0.mk (Kd.C_below HY.out hb); have m5_ := Aside0.mk (estoverslaw02_IntervalKeeps.Row.below RW5.out hb); have m6_ := Aside0.mk (estoverslaw02_IntervalKeeps.Row.below RW6.out hb); have m7_ := Aside0.mk (estoverslaw02_IntervalKeeps.Row.below RW7.out hb); clear HR0 HR1 BI HX HY RW5 RW6 RW7; have HR0 := m0_; have HR1 := m1_; have BI := m2_; have HX := m3_; have HY := m4_; have RW5 := m5_; have RW6 := m6_; have RW7 := m7_; clear m0_ m1_ m2_ m3_ m4_ m5_ m6_ m7_; have n0_ := Aside0.mk (below_step HB.out hb); clear HB; have HB := n0_; clear n0_; have n0_ := Aside0.mk (below_step HQ.out hb); clear HQ; have HQ := n0_; clear n0_ hb hR hr hn))
  clear hi0 hi1
  have hi0 := (blk_cell BI.out 0).trans (rfl : _ = some (Value.int .i64 a2_0))
  have hi1 := (blk_cell BI.out 1).trans (rfl : _ = some (Value.int .i64 a2_1))
  go_upto_region 9 with (first
    | (go_at_call 18; (refine (interval_Remove.calls k _ _ x a2_0 a2_1 z9 y9 _ HX.out HLX.out A9.out).mono ?_); rintro e6 w6 ⟨v, rfl, hR, hb⟩; obtain ⟨B9, n9, d9, rfl, hn, hr⟩ := estoverslaw02_IntervalKeeps.Row.of hR; have RW9 := Aside0.mk (estoverslaw02_IntervalKeeps.Row.low hr HQ.out.size); have HN9 := Aside0.mk hn; have m0_ := Aside0.mk (Kd.C_below HR0.out hb); have m1_ := Aside0.mk (Kd.C_below HR1.out hb); have m2_ := Aside0.mk (blk_below BI.out hb); have m3_ := Aside0.mk (Kd.C_below HX.out hb); have m4_ := Aside0.mk (Kd.C_below HY.out hb); have m5_ := Aside0.mk (estoverslaw02_IntervalKeeps.Row.below RW5.out hb); have m6_ := Aside0.mk (estoverslaw02_IntervalKeeps.Row.below RW6.out hb); have m7_ := Aside0.mk (estoverslaw02_IntervalKeeps.Row.below RW7.out hb); have m8_ := Aside0.mk (estoverslaw02_IntervalKeeps.Row.below RW8.out hb); clear HR0 HR1 BI HX HY RW5 RW6 RW7 RW8; have HR0 := m0_; have HR1 := m1_; have BI := m2_; have HX := m3_; have HY := m4_; have RW5 := m5_; have RW6 := m6_; have RW7 := m7_; have RW8 := m8_; clear m0_ m1_ m2_ m3_ m4_ m5_ m6_ m7_ m8_; have n0_ := Aside0.mk (below_step HB.out hb); clear HB; have HB := n0_; clear n0_; have n0_ := Aside0.mk (below_step HQ.out hb); clear HQ; have HQ := n0_; clear n0_ hb hR hr hn))
  clear hi0 hi1
  have hi0 := (blk_cell BI.out 0).trans (rfl : _ = some (Value.int .i64 a2_0))
  have hi1 := (blk_cell BI.out 1).trans (rfl : _ = some (Value.int .i64 a2_1))
  go_upto_region 10 with (first
    | (go_at_call 22; (refine (interval_Gaps.calls k _ _ x a2_0 a2_1 z10 y10 _ HX.out HLX.out A10.out).mono ?_); rintro e6 w6 ⟨v, rfl, hR, hb⟩; obtain ⟨B10, n10, d10, rfl, hn, hr⟩ := estoverslaw02_IntervalKeeps.Row.of hR; have RW10 := Aside0.mk (estoverslaw02_IntervalKeeps.Row.low hr HQ.out.size); have HN10 := Aside0.mk hn; have m0_ := Aside0.mk (Kd.C_below HR0.out hb); have m1_ := Aside0.mk (Kd.C_below HR1.out hb); have m2_ := Aside0.mk (blk_below BI.out hb); have m3_ := Aside0.mk (Kd.C_below HX.out hb); have m4_ := Aside0.mk (Kd.C_below HY.out hb); have m5_ := Aside0.mk (estoverslaw02_IntervalKeeps.Row.below RW5.out hb); have m6_ := Aside0.mk (estoverslaw02_IntervalKeeps.Row.below RW6.out hb); have m7_ := Aside0.mk (estoverslaw02_IntervalKeeps.Row.below RW7.out hb); have m8_ := Aside0.mk (estoverslaw02_IntervalKeeps.Row.below RW8.out hb); have m9_ := Aside0.mk (estoverslaw02_IntervalKeeps.Row.below RW9.out hb); clear HR0 HR1 BI HX HY RW5 RW6 RW7 RW8 RW9; have HR0 := m0_; have HR1 := m1_; have BI := m2_; have HX := m3_; have HY := m4_; have RW5 := m5_; have RW6 := m6_; have RW7 := m7_; have RW8 := m8_; have RW9 := m9_; clear m0_ m1_ m2_ m3_ m4_ m5_ m6_ m7_ m8_ m9_; have n0_ := Aside0.mk (below_step HB.out hb); clear HB; have HB := n0_; clear n0_; have n0_ := Aside0.mk (below_step HQ.out hb); clear HQ; have HQ := n0_; clear n0_ hb hR hr hn))
  clear hi0 hi1
  go_upto_block 0 with (first
    | ((with_reducible refine gate_dst (N := 78) rfl ?_); refine Kd.event_run (v := .slice (some ⟨w6.heap.size, 0, none⟩) 6 6) (w1 := w6.alloc (.cells #[.slice B5 n5 d5, .slice B6 n6 d6, .slice B7 n7 d7, .slice B8 n8 d8, .slice B9 n9 d9, .slice B10 n10 d10] 22)) rfl ?hr ?_; (case hr => first | (go_simp; done) | (go_simp; rfl))))
  have BL := Aside0.mk (blk_new w6 (.cells #[.slice B5 n5 d5, .slice B6 n6 d6, .slice B7 n7 d7, .slice B8 n8 d8, .slice B9 n9 d9, .slice B10 n10 d10] 22))
  have hb := below_alloc (Below.refl w6.heap.size w6) (.cells #[.slice B5 n5 d5, .slice B6 n6 d6, .slice B7 n7 d7, .slice B8 n8 d8, .slice B9 n9 d9, .slice B10 n10 d10] 22)
  have m0_ := Aside0.mk (estoverslaw02_IntervalKeeps.Row.below RW5.out hb); have m1_ := Aside0.mk (estoverslaw02_IntervalKeeps.Row.below RW6.out hb); have m2_ := Aside0.mk (estoverslaw02_IntervalKeeps.Row.below RW7.out hb); have m3_ := Aside0.mk (estoverslaw02_IntervalKeeps.Row.below RW8.out hb); have m4_ := Aside0.mk (estoverslaw02_IntervalKeeps.Row.below RW9.out hb); have m5_ := Aside0.mk (estoverslaw02_IntervalKeeps.Row.below RW10.out hb); clear RW5 RW6 RW7 RW8 RW9 RW10; have RW5 := m0_; have RW6 := m1_; have RW7 := m2_; have RW8 := m3_; have RW9 := m4_; have RW10 := m5_; clear m0_ m1_ m2_ m3_ m4_ m5_
  have n0_ := Aside0.mk (below_step HB.out hb); clear HB; have HB := n0_; clear n0_; have n0_ := Aside0.mk (below_step HQ.out hb); clear HQ; have HQ := n0_; clear n0_ hb HR0 HR1 BI HX HY
  generalize w6.alloc (.cells #[.slice B5 n5 d5, .slice B6 n6 d6, .slice B7 n7 d7, .slice B8 n8 d8, .slice B9 n9 d9, .slice B10 n10 d10] 22) = w7 at *
  generalize w6.heap.size = gl at *
  go_wp2
  refine wp_loop_rounds 7 ?_
  have hl := (blk_cell BL.out 0).trans (rfl : _ = some (Value.slice B5 n5 d5))
  rw [rounds_succ]
  go_upto_block 2 with fail
  go_cut [] from 85 to 100 (fun wx => Aside0 (Below w.heap.size w wx) ∧ Aside0 (Below w5.heap.size w5 wx) ∧ Aside0 (wx.heap[gl]? = some (.cells #[.slice B5 n5 d5, .slice B6 n6 d6, .slice B7 n7 d7, .slice B8 n8 d8, .slice B9 n9 d9, .slice B10 n10 d10] 22 (0, 0))) ∧ Aside0 (estoverslaw02_IntervalKeeps.Row wx w5.heap.size B5 n5) ∧ Aside0 (estoverslaw02_IntervalKeeps.Row wx w5.heap.size B6 n6) ∧ Aside0 (estoverslaw02_IntervalKeeps.Row wx w5.heap.size B7 n7) ∧ Aside0 (estoverslaw02_IntervalKeeps.Row wx w5.heap.size B8 n8) ∧ Aside0 (estoverslaw02_IntervalKeeps.Row wx w5.heap.size B9 n9) ∧ Aside0 (estoverslaw02_IntervalKeeps.Row wx w5.heap.size B10 n10))
  case first =>
    go_wp2
    go_loopg [23] n5 (fun kx s23 wr => ∃ i : Nat, s23 = .int .i64 (i : Int) ∧ i + kx = n5 ∧ Aside0 (Below w.heap.size w wr) ∧ Aside0 (Below w5.heap.size w5 wr) ∧ Aside0 (wr.heap[gl]? = some (.cells #[.slice B5 n5 d5, .slice B6 n6 d6, .slice B7 n7 d7, .slice B8 n8 d8, .slice B9 n9 d9, .slice B10 n10 d10] 22 (0, 0))) ∧ Aside0 (estoverslaw02_IntervalKeeps.Row wr w5.heap.size B5 n5) ∧ Aside0 (estoverslaw02_IntervalKeeps.Row wr w5.heap.size B6 n6) ∧ Aside0 (estoverslaw02_IntervalKeeps.Row wr w5.heap.size B7 n7) ∧ Aside0 (estoverslaw02_IntervalKeeps.Row wr w5.heap.size B8 n8) ∧ Aside0 (estoverslaw02_IntervalKeeps.Row wr w5.heap.size B9 n9) ∧ Aside0 (estoverslaw02_IntervalKeeps.Row wr w5.heap.size B10 n10))
    case atStart => exact ⟨0, rfl, by omega, HB, HQ, BL, RW5, RW6, RW7, RW8, RW9, RW10⟩
    case round =>
      clear HB HQ BL RW5 RW6 RW7 RW8 RW9 RW10
      obtain ⟨i, rfl, hik, HB, HQ, BL, RW5, RW6, RW7, RW8, RW9, RW10⟩ := hrel
      have hl := (blk_cell BL.out 0).trans (rfl : _ = some (Value.slice B5 n5 d5))
      cases gk with
      | zero =>
        have hge : ¬ (i : Int) < (n5 : Int) := by omega
        go_wp2
        go_meet
        exact ⟨HB, HQ, BL, RW5, RW6, RW7, RW8, RW9, RW10⟩
      | succ kx =>
        have hlt : (i : Int) < (n5 : Int) := by omega
        rcases RW5.out with ⟨_, h0⟩ | ⟨g, cur, rfl, hBg, hh, hs, hmx⟩
        · omega
        have hi9 : (i : Int) + 1 ≤ 9223372036854775807 := by omega
        clear hmx
        have HH := Aside0.mk hh; have HBG := Aside0.mk hBg; have HSZ := Aside0.mk hs; have NE := Aside0.mk (show gl ≠ g from fun e9 => by have h8 := BL.out; rw [e9, hh] at h8; simp at h8)
        clear hh hBg hs
        go_wp2_with (first
          | ((with_reducible refine gate_store (t := 28) (p := 100) rfl ?_); go_loud (refine estoverslaw02_IntervalKeeps.stq rfl rfl rfl rfl rfl HH.out ?_ ?_; (· have h9 := HSZ.out; first | omega | (simp; done) | (simp; omega)); intro w8 hw8; have p0_ := Aside0.mk (by rw [hw8]; exact estoverslaw02_IntervalKeeps.keep HB.out (Nat.le_trans HS5.out HBG.out) : Below w.heap.size w w8); have p1_ := Aside0.mk (by rw [hw8]; exact estoverslaw02_IntervalKeeps.keep HQ.out HBG.out : Below w5.heap.size w5 w8); have p2_ := Aside0.mk ((congrArg (fun W9 : World => W9.heap[gl]?) hw8).trans ((setCells_far _ _ _ NE.out).trans BL.out)); have q5_ := Aside0.mk (by rw [hw8]; exact estoverslaw02_IntervalKeeps.Row.set RW5.out HH.out (by have h9 := HSZ.out; first | omega | (simp; done) | (simp; omega)) : estoverslaw02_IntervalKeeps.Row w8 w5.heap.size (some ⟨g, 0, none⟩) n5); have q6_ := Aside0.mk (by rw [hw8]; exact estoverslaw02_IntervalKeeps.Row.set RW6.out HH.out (by have h9 := HSZ.out; first | omega | (simp; done) | (simp; omega)) : estoverslaw02_IntervalKeeps.Row w8 w5.heap.size B6 n6); have q7_ := Aside0.mk (by rw [hw8]; exact estoverslaw02_IntervalKeeps.Row.set RW7.out HH.out (by have h9 := HSZ.out; first | omega | (simp; done) | (simp; omega)) : estoverslaw02_IntervalKeeps.Row w8 w5.heap.size B7 n7); have q8_ := Aside0.mk (by rw [hw8]; exact estoverslaw02_IntervalKeeps.Row.set RW8.out HH.out (by have h9 := HSZ.out; first | omega | (simp; done) | (simp; omega)) : estoverslaw02_IntervalKeeps.Row w8 w5.heap.size B8 n8); have q9_ := Aside0.mk (by rw [hw8]; exact estoverslaw02_IntervalKeeps.Row.set RW9.out HH.out (by have h9 := HSZ.out; first | omega | (simp; done) | (simp; omega)) : estoverslaw02_IntervalKeeps.Row w8 w5.heap.size B9 n9); have q10_ := Aside0.mk (by rw [hw8]; exact estoverslaw02_IntervalKeeps.Row.set RW10.out HH.out (by have h9 := HSZ.out; first | omega | (simp; done) | (simp; omega)) : estoverslaw02_IntervalKeeps.Row w8 w5.heap.size B10 n10); clear HB HQ BL HH RW5 RW6 RW7 RW8 RW9 RW10; have HB := p0_; have HQ := p1_; have BL := p2_; have RW5 := q5_; have RW6 := q6_; have RW7 := q7_; have RW8 := q8_; have RW9 := q9_; have RW10 := q10_; clear p0_ p1_ p2_ q5_ q6_ q7_ q8_ q9_ q10_ hw8)))
        go_roundg kx
        case measure => omega
        case rel => exact ⟨i + 1, by simp, by omega, HB, HQ, BL, RW5, RW6, RW7, RW8, RW9, RW10⟩
  case rest =>
  clear HB HQ BL RW5 RW6 RW7 RW8 RW9 RW10
  obtain ⟨HB, HQ, BL, RW5, RW6, RW7, RW8, RW9, RW10⟩ := hcut
  go_upto_region 13 with (first
    | (go_at_call 21; (with_reducible refine (estoversref02_Same.calls k _ _ x _ _ l0 true _ (Kd.C_below HX5.out HQ.out) HLX.out (Kd.C_below HW0.out HB.out) HC0.out SX.out).mono ?_); rintro e9 w9 ⟨rfl, hd⟩; have hb := hd.below; have p0_ := Aside0.mk (below_step HB.out hb); have p1_ := Aside0.mk (below_step HQ.out hb); have p2_ := Aside0.mk (blk_below BL.out hb); have q5_ := Aside0.mk (estoverslaw02_IntervalKeeps.Row.below RW5.out hb); have q6_ := Aside0.mk (estoverslaw02_IntervalKeeps.Row.below RW6.out hb); have q7_ := Aside0.mk (estoverslaw02_IntervalKeeps.Row.below RW7.out hb); have q8_ := Aside0.mk (estoverslaw02_IntervalKeeps.Row.below RW8.out hb); have q9_ := Aside0.mk (estoverslaw02_IntervalKeeps.Row.below RW9.out hb); have q10_ := Aside0.mk (estoverslaw02_IntervalKeeps.Row.below RW10.out hb); clear HB HQ BL RW5 RW6 RW7 RW8 RW9 RW10; have HB := p0_; have HQ := p1_; have BL := p2_; have RW5 := q5_; have RW6 := q6_; have RW7 := q7_; have RW8 := q8_; have RW9 := q9_; have RW10 := q10_; clear p0_ p1_ p2_ q5_ q6_ q7_ q8_ q9_ q10_ hb hd)
    | (go_at_call 21; (with_reducible refine (estoversref02_Same.calls k _ _ y _ _ l1 true _ (Kd.C_below HY5.out HQ.out) HLY.out (Kd.C_below HW1.out HB.out) HC1.out SY.out).mono ?_); rintro e9 w9 ⟨rfl, hd⟩; have hb := hd.below; have p0_ := Aside0.mk (below_step HB.out hb); have p1_ := Aside0.mk (below_step HQ.out hb); have p2_ := Aside0.mk (blk_below BL.out hb); have q5_ := Aside0.mk (estoverslaw02_IntervalKeeps.Row.below RW5.out hb); have q6_ := Aside0.mk (estoverslaw02_IntervalKeeps.Row.below RW6.out hb); have q7_ := Aside0.mk (estoverslaw02_IntervalKeeps.Row.below RW7.out hb); have q8_ := Aside0.mk (estoverslaw02_IntervalKeeps.Row.below RW8.out hb); have q9_ := Aside0.mk (estoverslaw02_IntervalKeeps.Row.below RW9.out hb); have q10_ := Aside0.mk (estoverslaw02_IntervalKeeps.Row.below RW10.out hb); clear HB HQ BL RW5 RW6 RW7 RW8 RW9 RW10; have HB := p0_; have HQ := p1_; have BL := p2_; have RW5 := q5_; have RW6 := q6_; have RW7 := q7_; have RW8 := q8_; have RW9 := q9_; have RW10 := q10_; clear p0_ p1_ p2_ q5_ q6_ q7_ q8_ q9_ q10_ hb hd))
  go_wp2
  have hl := (blk_cell BL.out 1).trans (rfl : _ = some (Value.slice B6 n6 d6))
  rw [rounds_succ]
  go_upto_block 2 with fail
  go_cut [] from 85 to 100 (fun wx => Aside0 (Below w.heap.size w wx) ∧ Aside0 (Below w5.heap.size w5 wx) ∧ Aside0 (wx.heap[gl]? = some (.cells #[.slice B5 n5 d5, .slice B6 n6 d6, .slice B7 n7 d7, .slice B8 n8 d8, .slice B9 n9 d9, .slice B10 n10 d10] 22 (0, 0))) ∧ Aside0 (estoverslaw02_IntervalKeeps.Row wx w5.heap.size B5 n5) ∧ Aside0 (estoverslaw02_IntervalKeeps.Row wx w5.heap.size B6 n6) ∧ Aside0 (estoverslaw02_IntervalKeeps.Row wx w5.heap.size B7 n7) ∧ Aside0 (estoverslaw02_IntervalKeeps.Row wx w5.heap.size B8 n8) ∧ Aside0 (estoverslaw02_IntervalKeeps.Row wx w5.heap.size B9 n9) ∧ Aside0 (estoverslaw02_IntervalKeeps.Row wx w5.heap.size B10 n10))
  case first =>
    go_wp2
    go_loopg [23] n6 (fun kx s23 wr => ∃ i : Nat, s23 = .int .i64 (i : Int) ∧ i + kx = n6 ∧ Aside0 (Below w.heap.size w wr) ∧ Aside0 (Below w5.heap.size w5 wr) ∧ Aside0 (wr.heap[gl]? = some (.cells #[.slice B5 n5 d5, .slice B6 n6 d6, .slice B7 n7 d7, .slice B8 n8 d8, .slice B9 n9 d9, .slice B10 n10 d10] 22 (0, 0))) ∧ Aside0 (estoverslaw02_IntervalKeeps.Row wr w5.heap.size B5 n5) ∧ Aside0 (estoverslaw02_IntervalKeeps.Row wr w5.heap.size B6 n6) ∧ Aside0 (estoverslaw02_IntervalKeeps.Row wr w5.heap.size B7 n7) ∧ Aside0 (estoverslaw02_IntervalKeeps.Row wr w5.heap.size B8 n8) ∧ Aside0 (estoverslaw02_IntervalKeeps.Row wr w5.heap.size B9 n9) ∧ Aside0 (estoverslaw02_IntervalKeeps.Row wr w5.heap.size B10 n10))
    case atStart => exact ⟨0, rfl, by omega, HB, HQ, BL, RW5, RW6, RW7, RW8, RW9, RW10⟩
    case round =>
      clear HB HQ BL RW5 RW6 RW7 RW8 RW9 RW10
      obtain ⟨i, rfl, hik, HB, HQ, BL, RW5, RW6, RW7, RW8, RW9, RW10⟩ := hrel
      have hl := (blk_cell BL.out 1).trans (rfl : _ = some (Value.slice B6 n6 d6))
      cases gk with
      | zero =>
        have hge : ¬ (i : Int) < (n6 : Int) := by omega
        go_wp2
        go_meet
        exact ⟨HB, HQ, BL, RW5, RW6, RW7, RW8, RW9, RW10⟩
      | succ kx =>
        have hlt : (i : Int) < (n6 : Int) := by omega
        rcases RW6.out with ⟨_, h0⟩ | ⟨g, cur, rfl, hBg, hh, hs, hmx⟩
        · omega
        have hi9 : (i : Int) + 1 ≤ 9223372036854775807 := by omega
        clear hmx
        have HH := Aside0.mk hh; have HBG := Aside0.mk hBg; have HSZ := Aside0.mk hs; have NE := Aside0.mk (show gl ≠ g from fun e9 => by have h8 := BL.out; rw [e9, hh] at h8; simp at h8)
        clear hh hBg hs
        go_wp2_with (first
          | ((with_reducible refine gate_store (t := 28) (p := 100) rfl ?_); go_loud (refine estoverslaw02_IntervalKeeps.stq rfl rfl rfl rfl rfl HH.out ?_ ?_; (· have h9 := HSZ.out; first | omega | (simp; done) | (simp; omega)); intro w8 hw8; have p0_ := Aside0.mk (by rw [hw8]; exact estoverslaw02_IntervalKeeps.keep HB.out (Nat.le_trans HS5.out HBG.out) : Below w.heap.size w w8); have p1_ := Aside0.mk (by rw [hw8]; exact estoverslaw02_IntervalKeeps.keep HQ.out HBG.out : Below w5.heap.size w5 w8); have p2_ := Aside0.mk ((congrArg (fun W9 : World => W9.heap[gl]?) hw8).trans ((setCells_far _ _ _ NE.out).trans BL.out)); have q5_ := Aside0.mk (by rw [hw8]; exact estoverslaw02_IntervalKeeps.Row.set RW5.out HH.out (by have h9 := HSZ.out; first | omega | (simp; done) | (simp; omega)) : estoverslaw02_IntervalKeeps.Row w8 w5.heap.size B5 n5); have q6_ := Aside0.mk (by rw [hw8]; exact estoverslaw02_IntervalKeeps.Row.set RW6.out HH.out (by have h9 := HSZ.out; first | omega | (simp; done) | (simp; omega)) : estoverslaw02_IntervalKeeps.Row w8 w5.heap.size (some ⟨g, 0, none⟩) n6); have q7_ := Aside0.mk (by rw [hw8]; exact estoverslaw02_IntervalKeeps.Row.set RW7.out HH.out (by have h9 := HSZ.out; first | omega | (simp; done) | (simp; omega)) : estoverslaw02_IntervalKeeps.Row w8 w5.heap.size B7 n7); have q8_ := Aside0.mk (by rw [hw8]; exact estoverslaw02_IntervalKeeps.Row.set RW8.out HH.out (by have h9 := HSZ.out; first | omega | (simp; done) | (simp; omega)) : estoverslaw02_IntervalKeeps.Row w8 w5.heap.size B8 n8); have q9_ := Aside0.mk (by rw [hw8]; exact estoverslaw02_IntervalKeeps.Row.set RW9.out HH.out (by have h9 := HSZ.out; first | omega | (simp; done) | (simp; omega)) : estoverslaw02_IntervalKeeps.Row w8 w5.heap.size B9 n9); have q10_ := Aside0.mk (by rw [hw8]; exact estoverslaw02_IntervalKeeps.Row.set RW10.out HH.out (by have h9 := HSZ.out; first | omega | (simp; done) | (simp; omega)) : estoverslaw02_IntervalKeeps.Row w8 w5.heap.size B10 n10); clear HB HQ BL HH RW5 RW6 RW7 RW8 RW9 RW10; have HB := p0_; have HQ := p1_; have BL := p2_; have RW5 := q5_; have RW6 := q6_; have RW7 := q7_; have RW8 := q8_; have RW9 := q9_; have RW10 := q10_; clear p0_ p1_ p2_ q5_ q6_ q7_ q8_ q9_ q10_ hw8)))
        go_roundg kx
        case measure => omega
        case rel => exact ⟨i + 1, by simp, by omega, HB, HQ, BL, RW5, RW6, RW7, RW8, RW9, RW10⟩
  case rest =>
  clear HB HQ BL RW5 RW6 RW7 RW8 RW9 RW10
  obtain ⟨HB, HQ, BL, RW5, RW6, RW7, RW8, RW9, RW10⟩ := hcut
  go_upto_region 13 with (first
    | (go_at_call 21; (with_reducible refine (estoversref02_Same.calls k _ _ x _ _ l0 true _ (Kd.C_below HX5.out HQ.out) HLX.out (Kd.C_below HW0.out HB.out) HC0.out SX.out).mono ?_); rintro e9 w9 ⟨rfl, hd⟩; have hb := hd.below; have p0_ := Aside0.mk (below_step HB.out hb); have p1_ := Aside0.mk (below_step HQ.out hb); have p2_ := Aside0.mk (blk_below BL.out hb); have q5_ := Aside0.mk (estoverslaw02_IntervalKeeps.Row.below RW5.out hb); have q6_ := Aside0.mk (estoverslaw02_IntervalKeeps.Row.below RW6.out hb); have q7_ := Aside0.mk (estoverslaw02_IntervalKeeps.Row.below RW7.out hb); have q8_ := Aside0.mk (estoverslaw02_IntervalKeeps.Row.below RW8.out hb); have q9_ := Aside0.mk (estoverslaw02_IntervalKeeps.Row.below RW9.out hb); have q10_ := Aside0.mk (estoverslaw02_IntervalKeeps.Row.below RW10.out hb); clear HB HQ BL RW5 RW6 RW7 RW8 RW9 RW10; have HB := p0_; have HQ := p1_; have BL := p2_; have RW5 := q5_; have RW6 := q6_; have RW7 := q7_; have RW8 := q8_; have RW9 := q9_; have RW10 := q10_; clear p0_ p1_ p2_ q5_ q6_ q7_ q8_ q9_ q10_ hb hd)
    | (go_at_call 21; (with_reducible refine (estoversref02_Same.calls k _ _ y _ _ l1 true _ (Kd.C_below HY5.out HQ.out) HLY.out (Kd.C_below HW1.out HB.out) HC1.out SY.out).mono ?_); rintro e9 w9 ⟨rfl, hd⟩; have hb := hd.below; have p0_ := Aside0.mk (below_step HB.out hb); have p1_ := Aside0.mk (below_step HQ.out hb); have p2_ := Aside0.mk (blk_below BL.out hb); have q5_ := Aside0.mk (estoverslaw02_IntervalKeeps.Row.below RW5.out hb); have q6_ := Aside0.mk (estoverslaw02_IntervalKeeps.Row.below RW6.out hb); have q7_ := Aside0.mk (estoverslaw02_IntervalKeeps.Row.below RW7.out hb); have q8_ := Aside0.mk (estoverslaw02_IntervalKeeps.Row.below RW8.out hb); have q9_ := Aside0.mk (estoverslaw02_IntervalKeeps.Row.below RW9.out hb); have q10_ := Aside0.mk (estoverslaw02_IntervalKeeps.Row.below RW10.out hb); clear HB HQ BL RW5 RW6 RW7 RW8 RW9 RW10; have HB := p0_; have HQ := p1_; have BL := p2_; have RW5 := q5_; have RW6 := q6_; have RW7 := q7_; have RW8 := q8_; have RW9 := q9_; have RW10 := q10_; clear p0_ p1_ p2_ q5_ q6_ q7_ q8_ q9_ q10_ hb hd))
  go_wp2
  have hl := (blk_cell BL.out 2).trans (rfl : _ = some (Value.slice B7 n7 d7))
  rw [rounds_succ]
  go_upto_block 2 with fail
  go_cut [] from 85 to 100 (fun wx => Aside0 (Below w.heap.size w wx) ∧ Aside0 (Below w5.heap.size w5 wx) ∧ Aside0 (wx.heap[gl]? = some (.cells #[.slice B5 n5 d5, .slice B6 n6 d6, .slice B7 n7 d7, .slice B8 n8 d8, .slice B9 n9 d9, .slice B10 n10 d10] 22 (0, 0))) ∧ Aside0 (estoverslaw02_IntervalKeeps.Row wx w5.heap.size B5 n5) ∧ Aside0 (estoverslaw02_IntervalKeeps.Row wx w5.heap.size B6 n6) ∧ Aside0 (estoverslaw02_IntervalKeeps.Row wx w5.heap.size B7 n7) ∧ Aside0 (estoverslaw02_IntervalKeeps.Row wx w5.heap.size B8 n8) ∧ Aside0 (estoverslaw02_IntervalKeeps.Row wx w5.heap.size B9 n9) ∧ Aside0 (estoverslaw02_IntervalKeeps.Row wx w5.heap.size B10 n10))
  case first =>
    go_wp2
    go_loopg [23] n7 (fun kx s23 wr => ∃ i : Nat, s23 = .int .i64 (i : Int) ∧ i + kx = n7 ∧ Aside0 (Below w.heap.size w wr) ∧ Aside0 (Below w5.heap.size w5 wr) ∧ Aside0 (wr.heap[gl]? = some (.cells #[.slice B5 n5 d5, .slice B6 n6 d6, .slice B7 n7 d7, .slice B8 n8 d8, .slice B9 n9 d9, .slice B10 n10 d10] 22 (0, 0))) ∧ Aside0 (estoverslaw02_IntervalKeeps.Row wr w5.heap.size B5 n5) ∧ Aside0 (estoverslaw02_IntervalKeeps.Row wr w5.heap.size B6 n6) ∧ Aside0 (estoverslaw02_IntervalKeeps.Row wr w5.heap.size B7 n7) ∧ Aside0 (estoverslaw02_IntervalKeeps.Row wr w5.heap.size B8 n8) ∧ Aside0 (estoverslaw02_IntervalKeeps.Row wr w5.heap.size B9 n9) ∧ Aside0 (estoverslaw02_IntervalKeeps.Row wr w5.heap.size B10 n10))
    case atStart => exact ⟨0, rfl, by omega, HB, HQ, BL, RW5, RW6, RW7, RW8, RW9, RW10⟩
    case round =>
      clear HB HQ BL RW5 RW6 RW7 RW8 RW9 RW10
      obtain ⟨i, rfl, hik, HB, HQ, BL, RW5, RW6, RW7, RW8, RW9, RW10⟩ := hrel
      have hl := (blk_cell BL.out 2).trans (rfl : _ = some (Value.slice B7 n7 d7))
      cases gk with
      | zero =>
        have hge : ¬ (i : Int) < (n7 : Int) := by omega
        go_wp2
        go_meet
        exact ⟨HB, HQ, BL, RW5, RW6, RW7, RW8, RW9, RW10⟩
      | succ kx =>
        have hlt : (i : Int) < (n7 : Int) := by omega
        rcases RW7.out with ⟨_, h0⟩ | ⟨g, cur, rfl, hBg, hh, hs, hmx⟩
        · omega
        have hi9 : (i : Int) + 1 ≤ 9223372036854775807 := by omega
        clear hmx
        have HH := Aside0.mk hh; have HBG := Aside0.mk hBg; have HSZ := Aside0.mk hs; have NE := Aside0.mk (show gl ≠ g from fun e9 => by have h8 := BL.out; rw [e9, hh] at h8; simp at h8)
        clear hh hBg hs
        go_wp2_with (first
          | ((with_reducible refine gate_store (t := 28) (p := 100) rfl ?_); go_loud (refine estoverslaw02_IntervalKeeps.stq rfl rfl rfl rfl rfl HH.out ?_ ?_; (· have h9 := HSZ.out; first | omega | (simp; done) | (simp; omega)); intro w8 hw8; have p0_ := Aside0.mk (by rw [hw8]; exact estoverslaw02_IntervalKeeps.keep HB.out (Nat.le_trans HS5.out HBG.out) : Below w.heap.size w w8); have p1_ := Aside0.mk (by rw [hw8]; exact estoverslaw02_IntervalKeeps.keep HQ.out HBG.out : Below w5.heap.size w5 w8); have p2_ := Aside0.mk ((congrArg (fun W9 : World => W9.heap[gl]?) hw8).trans ((setCells_far _ _ _ NE.out).trans BL.out)); have q5_ := Aside0.mk (by rw [hw8]; exact estoverslaw02_IntervalKeeps.Row.set RW5.out HH.out (by have h9 := HSZ.out; first | omega | (simp; done) | (simp; omega)) : estoverslaw02_IntervalKeeps.Row w8 w5.heap.size B5 n5); have q6_ := Aside0.mk (by rw [hw8]; exact estoverslaw02_IntervalKeeps.Row.set RW6.out HH.out (by have h9 := HSZ.out; first | omega | (simp; done) | (simp; omega)) : estoverslaw02_IntervalKeeps.Row w8 w5.heap.size B6 n6); have q7_ := Aside0.mk (by rw [hw8]; exact estoverslaw02_IntervalKeeps.Row.set RW7.out HH.out (by have h9 := HSZ.out; first | omega | (simp; done) | (simp; omega)) : estoverslaw02_IntervalKeeps.Row w8 w5.heap.size (some ⟨g, 0, none⟩) n7); have q8_ := Aside0.mk (by rw [hw8]; exact estoverslaw02_IntervalKeeps.Row.set RW8.out HH.out (by have h9 := HSZ.out; first | omega | (simp; done) | (simp; omega)) : estoverslaw02_IntervalKeeps.Row w8 w5.heap.size B8 n8); have q9_ := Aside0.mk (by rw [hw8]; exact estoverslaw02_IntervalKeeps.Row.set RW9.out HH.out (by have h9 := HSZ.out; first | omega | (simp; done) | (simp; omega)) : estoverslaw02_IntervalKeeps.Row w8 w5.heap.size B9 n9); have q10_ := Aside0.mk (by rw [hw8]; exact estoverslaw02_IntervalKeeps.Row.set RW10.out HH.out (by have h9 := HSZ.out; first | omega | (simp; done) | (simp; omega)) : estoverslaw02_IntervalKeeps.Row w8 w5.heap.size B10 n10); clear HB HQ BL HH RW5 RW6 RW7 RW8 RW9 RW10; have HB := p0_; have HQ := p1_; have BL := p2_; have RW5 := q5_; have RW6 := q6_; have RW7 := q7_; have RW8 := q8_; have RW9 := q9_; have RW10 := q10_; clear p0_ p1_ p2_ q5_ q6_ q7_ q8_ q9_ q10_ hw8)))
        go_roundg kx
        case measure => omega
        case rel => exact ⟨i + 1, by simp, by omega, HB, HQ, BL, RW5, RW6, RW7, RW8, RW9, RW10⟩
  case rest =>
  clear HB HQ BL RW5 RW6 RW7 RW8 RW9 RW10
  obtain ⟨HB, HQ, BL, RW5, RW6, RW7, RW8, RW9, RW10⟩ := hcut
  go_upto_region 13 with (first
    | (go_at_call 21; (with_reducible refine (estoversref02_Same.calls k _ _ x _ _ l0 true _ (Kd.C_below HX5.out HQ.out) HLX.out (Kd.C_below HW0.out HB.out) HC0.out SX.out).mono ?_); rintro e9 w9 ⟨rfl, hd⟩; have hb := hd.below; have p0_ := Aside0.mk (below_step HB.out hb); have p1_ := Aside0.mk (below_step HQ.out hb); have p2_ := Aside0.mk (blk_below BL.out hb); have q5_ := Aside0.mk (estoverslaw02_IntervalKeeps.Row.below RW5.out hb); have q6_ := Aside0.mk (estoverslaw02_IntervalKeeps.Row.below RW6.out hb); have q7_ := Aside0.mk (estoverslaw02_IntervalKeeps.Row.below RW7.out hb); have q8_ := Aside0.mk (estoverslaw02_IntervalKeeps.Row.below RW8.out hb); have q9_ := Aside0.mk (estoverslaw02_IntervalKeeps.Row.below RW9.out hb); have q10_ := Aside0.mk (estoverslaw02_IntervalKeeps.Row.below RW10.out hb); clear HB HQ BL RW5 RW6 RW7 RW8 RW9 RW10; have HB := p0_; have HQ := p1_; have BL := p2_; have RW5 := q5_; have RW6 := q6_; have RW7 := q7_; have RW8 := q8_; have RW9 := q9_; have RW10 := q10_; clear p0_ p1_ p2_ q5_ q6_ q7_ q8_ q9_ q10_ hb hd)
    | (go_at_call 21; (with_reducible refine (estoversref02_Same.calls k _ _ y _ _ l1 true _ (Kd.C_below HY5.out HQ.out) HLY.out (Kd.C_below HW1.out HB.out) HC1.out SY.out).mono ?_); rintro e9 w9 ⟨rfl, hd⟩; have hb := hd.below; have p0_ := Aside0.mk (below_step HB.out hb); have p1_ := Aside0.mk (below_step HQ.out hb); have p2_ := Aside0.mk (blk_below BL.out hb); have q5_ := Aside0.mk (estoverslaw02_IntervalKeeps.Row.below RW5.out hb); have q6_ := Aside0.mk (estoverslaw02_IntervalKeeps.Row.below RW6.out hb); have q7_ := Aside0.mk (estoverslaw02_IntervalKeeps.Row.below RW7.out hb); have q8_ := Aside0.mk (estoverslaw02_IntervalKeeps.Row.below RW8.out hb); have q9_ := Aside0.mk (estoverslaw02_IntervalKeeps.Row.below RW9.out hb); have q10_ := Aside0.mk (estoverslaw02_IntervalKeeps.Row.below RW10.out hb); clear HB HQ BL RW5 RW6 RW7 RW8 RW9 RW10; have HB := p0_; have HQ := p1_; have BL := p2_; have RW5 := q5_; have RW6 := q6_; have RW7 := q7_; have RW8 := q8_; have RW9 := q9_; have RW10 := q10_; clear p0_ p1_ p2_ q5_ q6_ q7_ q8_ q9_ q10_ hb hd))
  go_wp2
  have hl := (blk_cell BL.out 3).trans (rfl : _ = some (Value.slice B8 n8 d8))
  rw [rounds_succ]
  go_upto_block 2 with fail
  go_cut [] from 85 to 100 (fun wx => Aside0 (Below w.heap.size w wx) ∧ Aside0 (Below w5.heap.size w5 wx) ∧ Aside0 (wx.heap[gl]? = some (.cells #[.slice B5 n5 d5, .slice B6 n6 d6, .slice B7 n7 d7, .slice B8 n8 d8, .slice B9 n9 d9, .slice B10 n10 d10] 22 (0, 0))) ∧ Aside0 (estoverslaw02_IntervalKeeps.Row wx w5.heap.size B5 n5) ∧ Aside0 (estoverslaw02_IntervalKeeps.Row wx w5.heap.size B6 n6) ∧ Aside0 (estoverslaw02_IntervalKeeps.Row wx w5.heap.size B7 n7) ∧ Aside0 (estoverslaw02_IntervalKeeps.Row wx w5.heap.size B8 n8) ∧ Aside0 (estoverslaw02_IntervalKeeps.Row wx w5.heap.size B9 n9) ∧ Aside0 (estoverslaw02_IntervalKeeps.Row wx w5.heap.size B10 n10))
  case first =>
    go_wp2
    go_loopg [23] n8 (fun kx s23 wr => ∃ i : Nat, s23 = .int .i64 (i : Int) ∧ i + kx = n8 ∧ Aside0 (Below w.heap.size w wr) ∧ Aside0 (Below w5.heap.size w5 wr) ∧ Aside0 (wr.heap[gl]? = some (.cells #[.slice B5 n5 d5, .slice B6 n6 d6, .slice B7 n7 d7, .slice B8 n8 d8, .slice B9 n9 d9, .slice B10 n10 d10] 22 (0, 0))) ∧ Aside0 (estoverslaw02_IntervalKeeps.Row wr w5.heap.size B5 n5) ∧ Aside0 (estoverslaw02_IntervalKeeps.Row wr w5.heap.size B6 n6) ∧ Aside0 (estoverslaw02_IntervalKeeps.Row wr w5.heap.size B7 n7) ∧ Aside0 (estoverslaw02_IntervalKeeps.Row wr w5.heap.size B8 n8) ∧ Aside0 (estoverslaw02_IntervalKeeps.Row wr w5.heap.size B9 n9) ∧ Aside0 (estoverslaw02_IntervalKeeps.Row wr w5.heap.size B10 n10))
    case atStart => exact ⟨0, rfl, by omega, HB, HQ, BL, RW5, RW6, RW7, RW8, RW9, RW10⟩
    case round =>
      clear HB HQ BL RW5 RW6 RW7 RW8 RW9 RW10
      obtain ⟨i, rfl, hik, HB, HQ, BL, RW5, RW6, RW7, RW8, RW9, RW10⟩ := hrel
      have hl := (blk_cell BL.out 3).trans (rfl : _ = some (Value.slice B8 n8 d8))
      cases gk with
      | zero =>
        have hge : ¬ (i : Int) < (n8 : Int) := by omega
        go_wp2
        go_meet
        exact ⟨HB, HQ, BL, RW5, RW6, RW7, RW8, RW9, RW10⟩
      | succ kx =>
        have hlt : (i : Int) < (n8 : Int) := by omega
        rcases RW8.out with ⟨_, h0⟩ | ⟨g, cur, rfl, hBg, hh, hs, hmx⟩
        · omega
        have hi9 : (i : Int) + 1 ≤ 9223372036854775807 := by omega
        clear hmx
        have HH := Aside0.mk hh; have HBG := Aside0.mk hBg; have HSZ := Aside0.mk hs; have NE := Aside0.mk (show gl ≠ g from fun e9 => by have h8 := BL.out; rw [e9, hh] at h8; simp at h8)
        clear hh hBg hs
        go_wp2_with (first
          | ((with_reducible refine gate_store (t := 28) (p := 100) rfl ?_); go_loud (refine estoverslaw02_IntervalKeeps.stq rfl rfl rfl rfl rfl HH.out ?_ ?_; (· have h9 := HSZ.out; first | omega | (simp; done) | (simp; omega)); intro w8 hw8; have p0_ := Aside0.mk (by rw [hw8]; exact estoverslaw02_IntervalKeeps.keep HB.out (Nat.le_trans HS5.out HBG.out) : Below w.heap.size w w8); have p1_ := Aside0.mk (by rw [hw8]; exact estoverslaw02_IntervalKeeps.keep HQ.out HBG.out : Below w5.heap.size w5 w8); have p2_ := Aside0.mk ((congrArg (fun W9 : World => W9.heap[gl]?) hw8).trans ((setCells_far _ _ _ NE.out).trans BL.out)); have q5_ := Aside0.mk (by rw [hw8]; exact estoverslaw02_IntervalKeeps.Row.set RW5.out HH.out (by have h9 := HSZ.out; first | omega | (simp; done) | (simp; omega)) : estoverslaw02_IntervalKeeps.Row w8 w5.heap.size B5 n5); have q6_ := Aside0.mk (by rw [hw8]; exact estoverslaw02_IntervalKeeps.Row.set RW6.out HH.out (by have h9 := HSZ.out; first | omega | (simp; done) | (simp; omega)) : estoverslaw02_IntervalKeeps.Row w8 w5.heap.size B6 n6); have q7_ := Aside0.mk (by rw [hw8]; exact estoverslaw02_IntervalKeeps.Row.set RW7.out HH.out (by have h9 := HSZ.out; first | omega | (simp; done) | (simp; omega)) : estoverslaw02_IntervalKeeps.Row w8 w5.heap.size B7 n7); have q8_ := Aside0.mk (by rw [hw8]; exact estoverslaw02_IntervalKeeps.Row.set RW8.out HH.out (by have h9 := HSZ.out; first | omega | (simp; done) | (simp; omega)) : estoverslaw02_IntervalKeeps.Row w8 w5.heap.size (some ⟨g, 0, none⟩) n8); have q9_ := Aside0.mk (by rw [hw8]; exact estoverslaw02_IntervalKeeps.Row.set RW9.out HH.out (by have h9 := HSZ.out; first | omega | (simp; done) | (simp; omega)) : estoverslaw02_IntervalKeeps.Row w8 w5.heap.size B9 n9); have q10_ := Aside0.mk (by rw [hw8]; exact estoverslaw02_IntervalKeeps.Row.set RW10.out HH.out (by have h9 := HSZ.out; first | omega | (simp; done) | (simp; omega)) : estoverslaw02_IntervalKeeps.Row w8 w5.heap.size B10 n10); clear HB HQ BL HH RW5 RW6 RW7 RW8 RW9 RW10; have HB := p0_; have HQ := p1_; have BL := p2_; have RW5 := q5_; have RW6 := q6_; have RW7 := q7_; have RW8 := q8_; have RW9 := q9_; have RW10 := q10_; clear p0_ p1_ p2_ q5_ q6_ q7_ q8_ q9_ q10_ hw8)))
        go_roundg kx
        case measure => omega
        case rel => exact ⟨i + 1, by simp, by omega, HB, HQ, BL, RW5, RW6, RW7, RW8, RW9, RW10⟩
  case rest =>
  clear HB HQ BL RW5 RW6 RW7 RW8 RW9 RW10
  obtain ⟨HB, HQ, BL, RW5, RW6, RW7, RW8, RW9, RW10⟩ := hcut
  go_upto_region 13 with (first
    | (go_at_call 21; (with_reducible refine (estoversref02_Same.calls k _ _ x _ _ l0 true _ (Kd.C_below HX5.out HQ.out) HLX.out (Kd.C_below HW0.out HB.out) HC0.out SX.out).mono ?_); rintro e9 w9 ⟨rfl, hd⟩; have hb := hd.below; have p0_ := Aside0.mk (below_step HB.out hb); have p1_ := Aside0.mk (below_step HQ.out hb); have p2_ := Aside0.mk (blk_below BL.out hb); have q5_ := Aside0.mk (estoverslaw02_IntervalKeeps.Row.below RW5.out hb); have q6_ := Aside0.mk (estoverslaw02_IntervalKeeps.Row.below RW6.out hb); have q7_ := Aside0.mk (estoverslaw02_IntervalKeeps.Row.below RW7.out hb); have q8_ := Aside0.mk (estoverslaw02_IntervalKeeps.Row.below RW8.out hb); have q9_ := Aside0.mk (estoverslaw02_IntervalKeeps.Row.below RW9.out hb); have q10_ := Aside0.mk (estoverslaw02_IntervalKeeps.Row.below RW10.out hb); clear HB HQ BL RW5 RW6 RW7 RW8 RW9 RW10; have HB := p0_; have HQ := p1_; have BL := p2_; have RW5 := q5_; have RW6 := q6_; have RW7 := q7_; have RW8 := q8_; have RW9 := q9_; have RW10 := q10_; clear p0_ p1_ p2_ q5_ q6_ q7_ q8_ q9_ q10_ hb hd)
    | (go_at_call 21; (with_reducible refine (estoversref02_Same.calls k _ _ y _ _ l1 true _ (Kd.C_below HY5.out HQ.out) HLY.out (Kd.C_below HW1.out HB.out) HC1.out SY.out).mono ?_); rintro e9 w9 ⟨rfl, hd⟩; have hb := hd.below; have p0_ := Aside0.mk (below_step HB.out hb); have p1_ := Aside0.mk (below_step HQ.out hb); have p2_ := Aside0.mk (blk_below BL.out hb); have q5_ := Aside0.mk (estoverslaw02_IntervalKeeps.Row.below RW5.out hb); have q6_ := Aside0.mk (estoverslaw02_IntervalKeeps.Row.below RW6.out hb); have q7_ := Aside0.mk (estoverslaw02_IntervalKeeps.Row.below RW7.out hb); have q8_ := Aside0.mk (estoverslaw02_IntervalKeeps.Row.below RW8.out hb); have q9_ := Aside0.mk (estoverslaw02_IntervalKeeps.Row.below RW9.out hb); have q10_ := Aside0.mk (estoverslaw02_IntervalKeeps.Row.below RW10.out hb); clear HB HQ BL RW5 RW6 RW7 RW8 RW9 RW10; have HB := p0_; have HQ := p1_; have BL := p2_; have RW5 := q5_; have RW6 := q6_; have RW7 := q7_; have RW8 := q8_; have RW9 := q9_; have RW10 := q10_; clear p0_ p1_ p2_ q5_ q6_ q7_ q8_ q9_ q10_ hb hd))
  go_wp2
  have hl := (blk_cell BL.out 4).trans (rfl : _ = some (Value.slice B9 n9 d9))
  rw [rounds_succ]
  go_upto_block 2 with fail
  go_cut [] from 85 to 100 (fun wx => Aside0 (Below w.heap.size w wx) ∧ Aside0 (Below w5.heap.size w5 wx) ∧ Aside0 (wx.heap[gl]? = some (.cells #[.slice B5 n5 d5, .slice B6 n6 d6, .slice B7 n7 d7, .slice B8 n8 d8, .slice B9 n9 d9, .slice B10 n10 d10] 22 (0, 0))) ∧ Aside0 (estoverslaw02_IntervalKeeps.Row wx w5.heap.size B5 n5) ∧ Aside0 (estoverslaw02_IntervalKeeps.Row wx w5.heap.size B6 n6) ∧ Aside0 (estoverslaw02_IntervalKeeps.Row wx w5.heap.size B7 n7) ∧ Aside0 (estoverslaw02_IntervalKeeps.Row wx w5.heap.size B8 n8) ∧ Aside0 (estoverslaw02_IntervalKeeps.Row wx w5.heap.size B9 n9) ∧ Aside0 (estoverslaw02_IntervalKeeps.Row wx w5.heap.size B10 n10))
  case first =>
    go_wp2
    go_loopg [23] n9 (fun kx s23 wr => ∃ i : Nat, s23 = .int .i64 (i : Int) ∧ i + kx = n9 ∧ Aside0 (Below w.heap.size w wr) ∧ Aside0 (Below w5.heap.size w5 wr) ∧ Aside0 (wr.heap[gl]? = some (.cells #[.slice B5 n5 d5, .slice B6 n6 d6, .slice B7 n7 d7, .slice B8 n8 d8, .slice B9 n9 d9, .slice B10 n10 d10] 22 (0, 0))) ∧ Aside0 (estoverslaw02_IntervalKeeps.Row wr w5.heap.size B5 n5) ∧ Aside0 (estoverslaw02_IntervalKeeps.Row wr w5.heap.size B6 n6) ∧ Aside0 (estoverslaw02_IntervalKeeps.Row wr w5.heap.size B7 n7) ∧ Aside0 (estoverslaw02_IntervalKeeps.Row wr w5.heap.size B8 n8) ∧ Aside0 (estoverslaw02_IntervalKeeps.Row wr w5.heap.size B9 n9) ∧ Aside0 (estoverslaw02_IntervalKeeps.Row wr w5.heap.size B10 n10))
    case atStart => exact ⟨0, rfl, by omega, HB, HQ, BL, RW5, RW6, RW7, RW8, RW9, RW10⟩
    case round =>
      clear HB HQ BL RW5 RW6 RW7 RW8 RW9 RW10
      obtain ⟨i, rfl, hik, HB, HQ, BL, RW5, RW6, RW7, RW8, RW9, RW10⟩ := hrel
      have hl := (blk_cell BL.out 4).trans (rfl : _ = some (Value.slice B9 n9 d9))
      cases gk with
      | zero =>
        have hge : ¬ (i : Int) < (n9 : Int) := by omega
        go_wp2
        go_meet
        exact ⟨HB, HQ, BL, RW5, RW6, RW7, RW8, RW9, RW10⟩
      | succ kx =>
        have hlt : (i : Int) < (n9 : Int) := by omega
        rcases RW9.out with ⟨_, h0⟩ | ⟨g, cur, rfl, hBg, hh, hs, hmx⟩
        · omega
        have hi9 : (i : Int) + 1 ≤ 9223372036854775807 := by omega
        clear hmx
        have HH := Aside0.mk hh; have HBG := Aside0.mk hBg; have HSZ := Aside0.mk hs; have NE := Aside0.mk (show gl ≠ g from fun e9 => by have h8 := BL.out; rw [e9, hh] at h8; simp at h8)
        clear hh hBg hs
        go_wp2_with (first
          | ((with_reducible refine gate_store (t := 28) (p := 100) rfl ?_); go_loud (refine estoverslaw02_IntervalKeeps.stq rfl rfl rfl rfl rfl HH.out ?_ ?_; (· have h9 := HSZ.out; first | omega | (simp; done) | (simp; omega)); intro w8 hw8; have p0_ := Aside0.mk (by rw [hw8]; exact estoverslaw02_IntervalKeeps.keep HB.out (Nat.le_trans HS5.out HBG.out) : Below w.heap.size w w8); have p1_ := Aside0.mk (by rw [hw8]; exact estoverslaw02_IntervalKeeps.keep HQ.out HBG.out : Below w5.heap.size w5 w8); have p2_ := Aside0.mk ((congrArg (fun W9 : World => W9.heap[gl]?) hw8).trans ((setCells_far _ _ _ NE.out).trans BL.out)); have q5_ := Aside0.mk (by rw [hw8]; exact estoverslaw02_IntervalKeeps.Row.set RW5.out HH.out (by have h9 := HSZ.out; first | omega | (simp; done) | (simp; omega)) : estoverslaw02_IntervalKeeps.Row w8 w5.heap.size B5 n5); have q6_ := Aside0.mk (by rw [hw8]; exact estoverslaw02_IntervalKeeps.Row.set RW6.out HH.out (by have h9 := HSZ.out; first | omega | (simp; done) | (simp; omega)) : estoverslaw02_IntervalKeeps.Row w8 w5.heap.size B6 n6); have q7_ := Aside0.mk (by rw [hw8]; exact estoverslaw02_IntervalKeeps.Row.set RW7.out HH.out (by have h9 := HSZ.out; first | omega | (simp; done) | (simp; omega)) : estoverslaw02_IntervalKeeps.Row w8 w5.heap.size B7 n7); have q8_ := Aside0.mk (by rw [hw8]; exact estoverslaw02_IntervalKeeps.Row.set RW8.out HH.out (by have h9 := HSZ.out; first | omega | (simp; done) | (simp; omega)) : estoverslaw02_IntervalKeeps.Row w8 w5.heap.size B8 n8); have q9_ := Aside0.mk (by rw [hw8]; exact estoverslaw02_IntervalKeeps.Row.set RW9.out HH.out (by have h9 := HSZ.out; first | omega | (simp; done) | (simp; omega)) : estoverslaw02_IntervalKeeps.Row w8 w5.heap.size (some ⟨g, 0, none⟩) n9); have q10_ := Aside0.mk (by rw [hw8]; exact estoverslaw02_IntervalKeeps.Row.set RW10.out HH.out (by have h9 := HSZ.out; first | omega | (simp; done) | (simp; omega)) : estoverslaw02_IntervalKeeps.Row w8 w5.heap.size B10 n10); clear HB HQ BL HH RW5 RW6 RW7 RW8 RW9 RW10; have HB := p0_; have HQ := p1_; have BL := p2_; have RW5 := q5_; have RW6 := q6_; have RW7 := q7_; have RW8 := q8_; have RW9 := q9_; have RW10 := q10_; clear p0_ p1_ p2_ q5_ q6_ q7_ q8_ q9_ q10_ hw8)))
        go_roundg kx
        case measure => omega
        case rel => exact ⟨i + 1, by simp, by omega, HB, HQ, BL, RW5, RW6, RW7, RW8, RW9, RW10⟩
  case rest =>
  clear HB HQ BL RW5 RW6 RW7 RW8 RW9 RW10
  obtain ⟨HB, HQ, BL, RW5, RW6, RW7, RW8, RW9, RW10⟩ := hcut
  go_upto_region 13 with (first
    | (go_at_call 21; (with_reducible refine (estoversref02_Same.calls k _ _ x _ _ l0 true _ (Kd.C_below HX5.out HQ.out) HLX.out (Kd.C_below HW0.out HB.out) HC0.out SX.out).mono ?_); rintro e9 w9 ⟨rfl, hd⟩; have hb := hd.below; have p0_ := Aside0.mk (below_step HB.out hb); have p1_ := Aside0.mk (below_step HQ.out hb); have p2_ := Aside0.mk (blk_below BL.out hb); have q5_ := Aside0.mk (estoverslaw02_IntervalKeeps.Row.below RW5.out hb); have q6_ := Aside0.mk (estoverslaw02_IntervalKeeps.Row.below RW6.out hb); have q7_ := Aside0.mk (estoverslaw02_IntervalKeeps.Row.below RW7.out hb); have q8_ := Aside0.mk (estoverslaw02_IntervalKeeps.Row.below RW8.out hb); have q9_ := Aside0.mk (estoverslaw02_IntervalKeeps.Row.below RW9.out hb); have q10_ := Aside0.mk (estoverslaw02_IntervalKeeps.Row.below RW10.out hb); clear HB HQ BL RW5 RW6 RW7 RW8 RW9 RW10; have HB := p0_; have HQ := p1_; have BL := p2_; have RW5 := q5_; have RW6 := q6_; have RW7 := q7_; have RW8 := q8_; have RW9 := q9_; have RW10 := q10_; clear p0_ p1_ p2_ q5_ q6_ q7_ q8_ q9_ q10_ hb hd)
    | (go_at_call 21; (with_reducible refine (estoversref02_Same.calls k _ _ y _ _ l1 true _ (Kd.C_below HY5.out HQ.out) HLY.out (Kd.C_below HW1.out HB.out) HC1.out SY.out).mono ?_); rintro e9 w9 ⟨rfl, hd⟩; have hb := hd.below; have p0_ := Aside0.mk (below_step HB.out hb); have p1_ := Aside0.mk (below_step HQ.out hb); have p2_ := Aside0.mk (blk_below BL.out hb); have q5_ := Aside0.mk (estoverslaw02_IntervalKeeps.Row.below RW5.out hb); have q6_ := Aside0.mk (estoverslaw02_IntervalKeeps.Row.below RW6.out hb); have q7_ := Aside0.mk (estoverslaw02_IntervalKeeps.Row.below RW7.out hb); have q8_ := Aside0.mk (estoverslaw02_IntervalKeeps.Row.below RW8.out hb); have q9_ := Aside0.mk (estoverslaw02_IntervalKeeps.Row.below RW9.out hb); have q10_ := Aside0.mk (estoverslaw02_IntervalKeeps.Row.below RW10.out hb); clear HB HQ BL RW5 RW6 RW7 RW8 RW9 RW10; have HB := p0_; have HQ := p1_; have BL := p2_; have RW5 := q5_; have RW6 := q6_; have RW7 := q7_; have RW8 := q8_; have RW9 := q9_; have RW10 := q10_; clear p0_ p1_ p2_ q5_ q6_ q7_ q8_ q9_ q10_ hb hd))
  go_wp2
  have hl := (blk_cell BL.out 5).trans (rfl : _ = some (Value.slice B10 n10 d10))
  rw [rounds_succ]
  go_upto_block 2 with fail
  go_cut [] from 85 to 100 (fun wx => Aside0 (Below w.heap.size w wx) ∧ Aside0 (Below w5.heap.size w5 wx) ∧ Aside0 (wx.heap[gl]? = some (.cells #[.slice B5 n5 d5, .slice B6 n6 d6, .slice B7 n7 d7, .slice B8 n8 d8, .slice B9 n9 d9, .slice B10 n10 d10] 22 (0, 0))) ∧ Aside0 (estoverslaw02_IntervalKeeps.Row wx w5.heap.size B5 n5) ∧ Aside0 (estoverslaw02_IntervalKeeps.Row wx w5.heap.size B6 n6) ∧ Aside0 (estoverslaw02_IntervalKeeps.Row wx w5.heap.size B7 n7) ∧ Aside0 (estoverslaw02_IntervalKeeps.Row wx w5.heap.size B8 n8) ∧ Aside0 (estoverslaw02_IntervalKeeps.Row wx w5.heap.size B9 n9) ∧ Aside0 (estoverslaw02_IntervalKeeps.Row wx w5.heap.size B10 n10))
  case first =>
    go_wp2
    go_loopg [23] n10 (fun kx s23 wr => ∃ i : Nat, s23 = .int .i64 (i : Int) ∧ i + kx = n10 ∧ Aside0 (Below w.heap.size w wr) ∧ Aside0 (Below w5.heap.size w5 wr) ∧ Aside0 (wr.heap[gl]? = some (.cells #[.slice B5 n5 d5, .slice B6 n6 d6, .slice B7 n7 d7, .slice B8 n8 d8, .slice B9 n9 d9, .slice B10 n10 d10] 22 (0, 0))) ∧ Aside0 (estoverslaw02_IntervalKeeps.Row wr w5.heap.size B5 n5) ∧ Aside0 (estoverslaw02_IntervalKeeps.Row wr w5.heap.size B6 n6) ∧ Aside0 (estoverslaw02_IntervalKeeps.Row wr w5.heap.size B7 n7) ∧ Aside0 (estoverslaw02_IntervalKeeps.Row wr w5.heap.size B8 n8) ∧ Aside0 (estoverslaw02_IntervalKeeps.Row wr w5.heap.size B9 n9) ∧ Aside0 (estoverslaw02_IntervalKeeps.Row wr w5.heap.size B10 n10))
    case atStart => exact ⟨0, rfl, by omega, HB, HQ, BL, RW5, RW6, RW7, RW8, RW9, RW10⟩
    case round =>
      clear HB HQ BL RW5 RW6 RW7 RW8 RW9 RW10
      obtain ⟨i, rfl, hik, HB, HQ, BL, RW5, RW6, RW7, RW8, RW9, RW10⟩ := hrel
      have hl := (blk_cell BL.out 5).trans (rfl : _ = some (Value.slice B10 n10 d10))
      cases gk with
      | zero =>
        have hge : ¬ (i : Int) < (n10 : Int) := by omega
        go_wp2
        go_meet
        exact ⟨HB, HQ, BL, RW5, RW6, RW7, RW8, RW9, RW10⟩
      | succ kx =>
        have hlt : (i : Int) < (n10 : Int) := by omega
        rcases RW10.out with ⟨_, h0⟩ | ⟨g, cur, rfl, hBg, hh, hs, hmx⟩
        · omega
        have hi9 : (i : Int) + 1 ≤ 9223372036854775807 := by omega
        clear hmx
        have HH := Aside0.mk hh; have HBG := Aside0.mk hBg; have HSZ := Aside0.mk hs; have NE := Aside0.mk (show gl ≠ g from fun e9 => by have h8 := BL.out; rw [e9, hh] at h8; simp at h8)
        clear hh hBg hs
        go_wp2_with (first
          | ((with_reducible refine gate_store (t := 28) (p := 100) rfl ?_); go_loud (refine estoverslaw02_IntervalKeeps.stq rfl rfl rfl rfl rfl HH.out ?_ ?_; (· have h9 := HSZ.out; first | omega | (simp; done) | (simp; omega)); intro w8 hw8; have p0_ := Aside0.mk (by rw [hw8]; exact estoverslaw02_IntervalKeeps.keep HB.out (Nat.le_trans HS5.out HBG.out) : Below w.heap.size w w8); have p1_ := Aside0.mk (by rw [hw8]; exact estoverslaw02_IntervalKeeps.keep HQ.out HBG.out : Below w5.heap.size w5 w8); have p2_ := Aside0.mk ((congrArg (fun W9 : World => W9.heap[gl]?) hw8).trans ((setCells_far _ _ _ NE.out).trans BL.out)); have q5_ := Aside0.mk (by rw [hw8]; exact estoverslaw02_IntervalKeeps.Row.set RW5.out HH.out (by have h9 := HSZ.out; first | omega | (simp; done) | (simp; omega)) : estoverslaw02_IntervalKeeps.Row w8 w5.heap.size B5 n5); have q6_ := Aside0.mk (by rw [hw8]; exact estoverslaw02_IntervalKeeps.Row.set RW6.out HH.out (by have h9 := HSZ.out; first | omega | (simp; done) | (simp; omega)) : estoverslaw02_IntervalKeeps.Row w8 w5.heap.size B6 n6); have q7_ := Aside0.mk (by rw [hw8]; exact estoverslaw02_IntervalKeeps.Row.set RW7.out HH.out (by have h9 := HSZ.out; first | omega | (simp; done) | (simp; omega)) : estoverslaw02_IntervalKeeps.Row w8 w5.heap.size B7 n7); have q8_ := Aside0.mk (by rw [hw8]; exact estoverslaw02_IntervalKeeps.Row.set RW8.out HH.out (by have h9 := HSZ.out; first | omega | (simp; done) | (simp; omega)) : estoverslaw02_IntervalKeeps.Row w8 w5.heap.size B8 n8); have q9_ := Aside0.mk (by rw [hw8]; exact estoverslaw02_IntervalKeeps.Row.set RW9.out HH.out (by have h9 := HSZ.out; first | omega | (simp; done) | (simp; omega)) : estoverslaw02_IntervalKeeps.Row w8 w5.heap.size B9 n9); have q10_ := Aside0.mk (by rw [hw8]; exact estoverslaw02_IntervalKeeps.Row.set RW10.out HH.out (by have h9 := HSZ.out; first | omega | (simp; done) | (simp; omega)) : estoverslaw02_IntervalKeeps.Row w8 w5.heap.size (some ⟨g, 0, none⟩) n10); clear HB HQ BL HH RW5 RW6 RW7 RW8 RW9 RW10; have HB := p0_; have HQ := p1_; have BL := p2_; have RW5 := q5_; have RW6 := q6_; have RW7 := q7_; have RW8 := q8_; have RW9 := q9_; have RW10 := q10_; clear p0_ p1_ p2_ q5_ q6_ q7_ q8_ q9_ q10_ hw8)))
        go_roundg kx
        case measure => omega
        case rel => exact ⟨i + 1, by simp, by omega, HB, HQ, BL, RW5, RW6, RW7, RW8, RW9, RW10⟩
  case rest =>
  clear HB HQ BL RW5 RW6 RW7 RW8 RW9 RW10
  obtain ⟨HB, HQ, BL, RW5, RW6, RW7, RW8, RW9, RW10⟩ := hcut
  go_upto_region 13 with (first
    | (go_at_call 21; (with_reducible refine (estoversref02_Same.calls k _ _ x _ _ l0 true _ (Kd.C_below HX5.out HQ.out) HLX.out (Kd.C_below HW0.out HB.out) HC0.out SX.out).mono ?_); rintro e9 w9 ⟨rfl, hd⟩; have hb := hd.below; have p0_ := Aside0.mk (below_step HB.out hb); have p1_ := Aside0.mk (below_step HQ.out hb); have p2_ := Aside0.mk (blk_below BL.out hb); have q5_ := Aside0.mk (estoverslaw02_IntervalKeeps.Row.below RW5.out hb); have q6_ := Aside0.mk (estoverslaw02_IntervalKeeps.Row.below RW6.out hb); have q7_ := Aside0.mk (estoverslaw02_IntervalKeeps.Row.below RW7.out hb); have q8_ := Aside0.mk (estoverslaw02_IntervalKeeps.Row.below RW8.out hb); have q9_ := Aside0.mk (estoverslaw02_IntervalKeeps.Row.below RW9.out hb); have q10_ := Aside0.mk (estoverslaw02_IntervalKeeps.Row.below RW10.out hb); clear HB HQ BL RW5 RW6 RW7 RW8 RW9 RW10; have HB := p0_; have HQ := p1_; have BL := p2_; have RW5 := q5_; have RW6 := q6_; have RW7 := q7_; have RW8 := q8_; have RW9 := q9_; have RW10 := q10_; clear p0_ p1_ p2_ q5_ q6_ q7_ q8_ q9_ q10_ hb hd)
    | (go_at_call 21; (with_reducible refine (estoversref02_Same.calls k _ _ y _ _ l1 true _ (Kd.C_below HY5.out HQ.out) HLY.out (Kd.C_below HW1.out HB.out) HC1.out SY.out).mono ?_); rintro e9 w9 ⟨rfl, hd⟩; have hb := hd.below; have p0_ := Aside0.mk (below_step HB.out hb); have p1_ := Aside0.mk (below_step HQ.out hb); have p2_ := Aside0.mk (blk_below BL.out hb); have q5_ := Aside0.mk (estoverslaw02_IntervalKeeps.Row.below RW5.out hb); have q6_ := Aside0.mk (estoverslaw02_IntervalKeeps.Row.below RW6.out hb); have q7_ := Aside0.mk (estoverslaw02_IntervalKeeps.Row.below RW7.out hb); have q8_ := Aside0.mk (estoverslaw02_IntervalKeeps.Row.below RW8.out hb); have q9_ := Aside0.mk (estoverslaw02_IntervalKeeps.Row.below RW9.out hb); have q10_ := Aside0.mk (estoverslaw02_IntervalKeeps.Row.below RW10.out hb); clear HB HQ BL RW5 RW6 RW7 RW8 RW9 RW10; have HB := p0_; have HQ := p1_; have BL := p2_; have RW5 := q5_; have RW6 := q6_; have RW7 := q7_; have RW8 := q8_; have RW9 := q9_; have RW10 := q10_; clear p0_ p1_ p2_ q5_ q6_ q7_ q8_ q9_ q10_ hb hd))
  go_wp2
  rw [rounds_succ]
  go_wp2_with (first
    | (go_at_call 12; (with_reducible refine (estoverslaw02_awake.calls k r _ HA.out).mono ?_); rintro e4 w4 ⟨rfl, hb⟩; have n0_ := Aside0.mk (below_step HB.out hb); clear HB; have HB := n0_; clear n0_; clear hb))
  go_ret
  exact ⟨rfl, HB.out⟩

end Go.Proofs.Ytkgknibciclmjaa.I

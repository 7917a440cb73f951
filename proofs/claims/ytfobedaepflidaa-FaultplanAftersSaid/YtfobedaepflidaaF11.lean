-- Written by a program of this session (own_print.py) that runs the kit's printer. Lean checks it.
import Derived.Test.YtfobedaepflidaaF0
import Derived.Test.YtfobedaepflidaaF9
import Derived.Test.YtfobedaepflidaaF10
namespace Go.Proofs.Ytfobedaepflidaa.F
open Go.RowKit Go.Proofs.YtfobedaepflidaaW.PrintWords Go.Proofs.YtfobedaepflidaaW.PrintLast Go.Proofs.YtfobedaepflidaaW.PrintMore
attribute [local go_sem] max2_int min2_int max_two min_two max_three min_three max_four min_four   -- for this text's walks alone
set_option linter.unusedVariables false
set_option linter.unusedSimpArgs false

attribute [local go_sem ↓ high] ld23a sv23a
attribute [local go_sem high] ld23 sv23
/-! ### faultplan_After: function 15 -/
theorem faultplan_After.eq23 (d : Nat) (w : World) (x0 y0 : Bool) (x1 y1 : Bool) (x2 y2 : Int) (x3 y3 : Bool) (x4 y4 : Bool) (x5 y5 : Bool) (x6 y6 : Bool) (x7 y7 : Int) (x8 y8 : Bool) (x9 y9 : Bool) (x10 y10 : Bool) (x11 y11 : Bool) (x12 y12 : Bool) (x13 y13 : Bool) (x14 y14 : Bool) (x15 y15 : Bool) (x16 y16 : Int) :
    (Op.equalIn (d + 2) 23 (.agg #[.bool x0, .bool x1, .int .i64 x2, .bool x3, .bool x4, .bool x5, .bool x6, .int .i64 x7, .bool x8, .bool x9, .bool x10, .bool x11, .bool x12, .bool x13, .bool x14, .bool x15, .int .i64 x16]) (.agg #[.bool y0, .bool y1, .int .i64 y2, .bool y3, .bool y4, .bool y5, .bool y6, .int .i64 y7, .bool y8, .bool y9, .bool y10, .bool y11, .bool y12, .bool y13, .bool y14, .bool y15, .int .i64 y16])).run Try.prog w = .ok (x0 == y0 && (x1 == y1 && (x2 == y2 && (x3 == y3 && (x4 == y4 && (x5 == y5 && (x6 == y6 && (x7 == y7 && (x8 == y8 && (x9 == y9 && (x10 == y10 && (x11 == y11 && (x12 == y12 && (x13 == y13 && (x14 == y14 && (x15 == y15 && (x16 == y16))))))))))))))))) w := by
  refine eqA_of Try.underlying23 (by kernel_rfl) ?_
  refine eqf_cons (by rfl) (by go_simp; rfl) (by go_simp; rfl) (by go_simp) ?_
  refine eqf_cons (by rfl) (by go_simp; rfl) (by go_simp; rfl) (by go_simp) ?_
  refine eqf_cons (by rfl) (by go_simp; rfl) (by go_simp; rfl) (by go_simp) ?_
  refine eqf_cons (by rfl) (by go_simp; rfl) (by go_simp; rfl) (by go_simp) ?_
  refine eqf_cons (by rfl) (by go_simp; rfl) (by go_simp; rfl) (by go_simp) ?_
  refine eqf_cons (by rfl) (by go_simp; rfl) (by go_simp; rfl) (by go_simp) ?_
  refine eqf_cons (by rfl) (by go_simp; rfl) (by go_simp; rfl) (by go_simp) ?_
  refine eqf_cons (by rfl) (by go_simp; rfl) (by go_simp; rfl) (by go_simp) ?_
  refine eqf_cons (by rfl) (by go_simp; rfl) (by go_simp; rfl) (by go_simp) ?_
  refine eqf_cons (by rfl) (by go_simp; rfl) (by go_simp; rfl) (by go_simp) ?_
  refine eqf_cons (by rfl) (by go_simp; rfl) (by go_simp; rfl) (by go_simp) ?_
  refine eqf_cons (by rfl) (by go_simp; rfl) (by go_simp; rfl) (by go_simp) ?_
  refine eqf_cons (by rfl) (by go_simp; rfl) (by go_simp; rfl) (by go_simp) ?_
  refine eqf_cons (by rfl) (by go_simp; rfl) (by go_simp; rfl) (by go_simp) ?_
  refine eqf_cons (by rfl) (by go_simp; rfl) (by go_simp; rfl) (by go_simp) ?_
  refine eqf_cons (by rfl) (by go_simp; rfl) (by go_simp; rfl) (by go_simp) ?_
  exact eqf_last (by rfl) (by go_simp; rfl) (by go_simp; rfl) (by go_simp)
theorem faultplan_After.st1 {ops : Array Oper} {rest : List Oper} {o : Oper} {a : Act} {Q : Exit → Act → World → Prop} {W w0 : World} {g : Nat} {old : Array Value} {e : TypeId} {p : Tmp} {x : Operand} (t : TypeId) (off : Nat) (v : Value) (cs : Array Value)
    (hgd : o.guard = none) (hN : o.dst = none) (ho : o.op = .store t (.tmp p) x) (hp : a.eval (.tmp p) = .pointer (some ⟨g, off, none⟩)) (hv : a.eval x = v) (hcell : v.cells.toList = [v]) (h1 : v.oneCell' = true) (hh : W.heap[g]? = some (.cells old e (0, 0)))
    (hsz : (Try.prog.info? t).map (·.size) = some 1) (hlt : off < old.size) (hcs : old.setIfInBounds off v = cs) (HB : Below w0.heap.size w0 W) (hg : w0.heap.size ≤ g)
    (h : ∀ w1 : World, w1.heap[g]? = some (.cells cs e (0, 0)) → Below w0.heap.size w0 w1 → (∀ k b, k ≠ g → W.heap[k]? = some b → w1.heap[k]? = some b) → wpList Try.prog ops Q rest a w1) : wpList Try.prog ops Q (o :: rest) a W := by
  have hr := run_store_run (P := Try.prog) (w := W) (g := g) (o := off) (e := e) (cur := old) t v [v] hh hcell hsz (by simp; omega) (by simpa using h1)
  refine store_event (w1 := W.setCell ⟨g, off, none⟩ v) hgd ho hN ?_ fun w' hw' => ?_
  · unfold execOp
    simp only [ho, hp, hv, Sem.run_bind, hr, Result.andThen_ok, Sem.run_pure, World.setCells]
  · subst hw'
    exact h _ (blk_put hh off v hcs) (below_set HB hg) fun k b hk hb => (Below.heap_setCell W ⟨g, off, none⟩ v k hk).trans hb
def faultplan_After.step (p q : Int) (wr : Bool) (a0_0 : Bool) (a0_1 : Bool) (a0_2 : Int) (a0_3 : Bool) (a0_4 : Bool) (a0_5 : Bool) (a0_6 : Bool) (a0_7 : Int) (a0_8 : Bool) (a0_9 : Bool) (a0_10 : Bool) (a0_11 : Bool) (a0_12 : Bool) (a0_13 : Bool) (a0_14 : Bool) (a0_15 : Bool) (a0_16 : Int) : Option (Bool × Bool × Int × Bool × Bool × Bool × Bool × Int × Bool × Bool × Bool × Bool × Bool × Bool × Bool × Bool × Int) := if p = 2 then faultplan_waited.f a0_0 a0_1 a0_2 a0_3 a0_4 a0_5 a0_6 a0_7 a0_8 a0_9 a0_10 a0_11 a0_12 a0_13 a0_14 a0_15 a0_16 q else (if p = 8 then some (a0_0, a0_1, a0_2, a0_3, a0_4, a0_5, a0_6, a0_7, true, a0_9, a0_10, a0_11, a0_12, a0_13, a0_14, a0_15, a0_16) else (if p = 7 then some (a0_0, a0_1, a0_2, a0_3, a0_4, a0_5, a0_6, a0_7, true, a0_9, a0_10, a0_11, a0_12, a0_13, true, a0_15, a0_16) else (if p = 9 then some (a0_0, a0_1, a0_2, a0_3, a0_4, a0_5, a0_6, a0_7, true, a0_9, true, true, a0_12, a0_13, a0_14, a0_15, a0_16) else (if p = 10 then some (a0_0, a0_1, a0_2, a0_3, a0_4, a0_5, a0_6, 1, (a0_11 && wr), a0_9, a0_10, a0_11, false, a0_13, a0_14, a0_15, a0_16) else (if p = 11 then some (a0_0, a0_1, a0_2, a0_3, a0_4, a0_5, a0_6, a0_7, a0_8, a0_9, a0_10, a0_11, true, a0_13, a0_14, a0_15, a0_16) else (if p = 3 then some (a0_0, a0_1, a0_2, a0_3, a0_4, a0_5, a0_6, 1, wr, a0_9, true, true, a0_12, a0_13, a0_14, a0_15, 0) else (if p = 6 then some (a0_0, a0_1, a0_2, a0_3, a0_4, a0_5, a0_6, 1, a0_8, a0_9, a0_10, a0_11, false, a0_13, a0_14, a0_15, 0) else (if p = 4 then some (a0_0, a0_1, a0_2, a0_3, a0_4, a0_5, a0_6, a0_7, a0_8, a0_9, a0_10, a0_11, true, a0_13, a0_14, a0_15, a0_16) else (if p = 5 then some (a0_0, a0_1, a0_2, a0_3, a0_4, a0_5, a0_6, a0_7, a0_8, a0_9, a0_10, a0_11, true, a0_13, a0_14, a0_15, a0_16) else (some (a0_0, a0_1, a0_2, a0_3, a0_4, a0_5, a0_6, a0_7, a0_8, a0_9, a0_10, a0_11, a0_12, a0_13, a0_14, a0_15, a0_16)))))))))))
def faultplan_After.f (k : Nat) (a0_0 : Bool) (a0_1 : Bool) (a0_2 : Int) (a0_3 : Bool) (a0_4 : Bool) (a0_5 : Bool) (a0_6 : Bool) (a0_7 : Int) (a0_8 : Bool) (a0_9 : Bool) (a0_10 : Bool) (a0_11 : Bool) (a0_12 : Bool) (a0_13 : Bool) (a0_14 : Bool) (a0_15 : Bool) (a0_16 : Int) : Option (Bool × Bool × Int × Bool × Bool × Bool × Bool × Int × Bool × Bool × Bool × Bool × Bool × Bool × Bool × Bool × Int × Bool × Int) := (faultplan_Plan.f k a0_0 a0_1 a0_2 a0_3 a0_4 a0_5 a0_6 a0_7 a0_8 a0_9 a0_10 a0_11 a0_12 a0_13 a0_14 a0_15 a0_16).bind fun u => if u.2.2.2.2.2 = 0 then ((faultplan_After.step u.1 u.2.2.1 (bits .and .i64 a0_2 2 != 0) a0_0 a0_1 a0_2 a0_3 a0_4 a0_5 a0_6 a0_7 a0_8 a0_9 a0_10 a0_11 a0_12 a0_13 a0_14 a0_15 a0_16).bind fun t => some (t.1, t.2.1, t.2.2.1, t.2.2.2.1, t.2.2.2.2.1, t.2.2.2.2.2.1, t.2.2.2.2.2.2.1, t.2.2.2.2.2.2.2.1, t.2.2.2.2.2.2.2.2.1, t.2.2.2.2.2.2.2.2.2.1, t.2.2.2.2.2.2.2.2.2.2.1, t.2.2.2.2.2.2.2.2.2.2.2.1, t.2.2.2.2.2.2.2.2.2.2.2.2.1, t.2.2.2.2.2.2.2.2.2.2.2.2.2.1, t.2.2.2.2.2.2.2.2.2.2.2.2.2.2.1, t.2.2.2.2.2.2.2.2.2.2.2.2.2.2.2.1, t.2.2.2.2.2.2.2.2.2.2.2.2.2.2.2.2, (t.1 == a0_0 && (t.2.1 == a0_1 && (t.2.2.1 == a0_2 && (t.2.2.2.1 == a0_3 && (t.2.2.2.2.1 == a0_4 && (t.2.2.2.2.2.1 == a0_5 && (t.2.2.2.2.2.2.1 == a0_6 && (t.2.2.2.2.2.2.2.1 == a0_7 && (t.2.2.2.2.2.2.2.2.1 == a0_8 && (t.2.2.2.2.2.2.2.2.2.1 == a0_9 && (t.2.2.2.2.2.2.2.2.2.2.1 == a0_10 && (t.2.2.2.2.2.2.2.2.2.2.2.1 == a0_11 && (t.2.2.2.2.2.2.2.2.2.2.2.2.1 == a0_12 && (t.2.2.2.2.2.2.2.2.2.2.2.2.2.1 == a0_13 && (t.2.2.2.2.2.2.2.2.2.2.2.2.2.2.1 == a0_14 && (t.2.2.2.2.2.2.2.2.2.2.2.2.2.2.2.1 == a0_15 && (t.2.2.2.2.2.2.2.2.2.2.2.2.2.2.2.2 == a0_16))))))))))))))))), 0)) else some (false, false, 0, false, false, false, false, 0, false, false, false, false, false, false, false, false, 0, false, u.2.2.2.2.2)
theorem faultplan_After.mono : ∀ a0 a1 a2 a3 a4 a5 a6 a7 a8 a9 a10 a11 a12 a13 a14 a15 a16 k, LeO (faultplan_After.f k a0 a1 a2 a3 a4 a5 a6 a7 a8 a9 a10 a11 a12 a13 a14 a15 a16) (faultplan_After.f (k + 1) a0 a1 a2 a3 a4 a5 a6 a7 a8 a9 a10 a11 a12 a13 a14 a15 a16) := by
  intro a0 a1 a2 a3 a4 a5 a6 a7 a8 a9 a10 a11 a12 a13 a14 a15 a16 k
  unfold faultplan_After.f
  exact LeO.bind (faultplan_Plan.mono _ _ _ _ _ _ _ _ _ _ _ _ _ _ _ _ _ _) (fun _ => LeO.refl _)
theorem faultplan_After.sth {o : Oper} {a : Act} {W : World} {g : Nat} {old cs : Array Value} {p : Tmp} {v : Operand} (t : TypeId) (ho : o.op = .store t (.tmp p) v) (hp : a.eval (.tmp p) = .pointer (some ⟨g, 0, none⟩)) (hv : a.eval v = .agg cs) (hh : W.heap[g]? = some (.cells old t (0, 0)))
    (hsz : (Try.prog.info? t).map (·.size) = some cs.size) (hsz2 : cs.size = old.size) (h1 : ∀ q ∈ cs.toList, q.oneCell' = true) : (execOp a.eval o).run Try.prog W = .ok .skip (W.setCells g 0 cs.toList) := by
  have hr := run_store_run (P := Try.prog) (w := W) (g := g) (o := 0) (e := t) (cur := old) t (.agg cs) cs.toList hh rfl (by simpa using hsz) (by simp; omega) h1
  unfold execOp
  simp only [ho, hp, hv, Sem.run_bind, hr, Result.andThen_ok, Sem.run_pure]
theorem faultplan_After.step1 {ops : Array Oper} {Q : Exit → Act → World → Prop} {o : Oper} {a : Act} {W w0 : World} {K : Act → World → Prop} {g : Nat} {old cs : Array Value} {p : Tmp} {v : Operand} (t : TypeId) (hw : Region.wanted o (yielded ops a.tmps) = true) (hN : o.dst = none) (ho : o.op = .store t (.tmp p) v) (hp : a.eval (.tmp p) = .pointer (some ⟨g, 0, none⟩)) (hv : a.eval v = .agg cs) (hh : W.heap[g]? = some (.cells old t (0, 0)))
    (hsz : (Try.prog.info? t).map (·.size) = some cs.size) (hsz2 : cs.size = old.size) (h1 : ∀ q ∈ cs.toList, q.oneCell' = true) (HB : Below w0.heap.size w0 W) (hg : w0.heap.size ≤ g)
    (h : ∀ w1 : World, w1.heap[g]? = some (.cells cs t (0, 0)) → Below w0.heap.size w0 w1 → (∀ k b, k ≠ g → W.heap[k]? = some b → w1.heap[k]? = some b) → K a w1) : if Region.wanted o (yielded ops a.tmps) = true then Oper.wp Try.prog o a W K Q else K (a.put none undef) W := by
  refine skip_ hw hN (faultplan_After.sth t ho hp hv hh hsz hsz2 h1) ?_
  obtain ⟨cur', h3, h4, h5⟩ := setCells_row cs.toList 0 W old hh (by simp; omega)
  have hcur : cur' = cs := by
    apply Array.ext'
    rw [h5]
    simp
    omega
  subst hcur
  obtain ⟨s1, s2, s3, s4⟩ := setCells_same g cur'.toList 0 W
  exact h _ h3 (HB.trans ⟨s1, s2, s3, by rw [s4]; exact Nat.le_refl _, fun k hk => setCells_far _ _ k (by omega)⟩) fun k b hk hb => (setCells_far _ _ k hk).trans hb
attribute [local go_sem high] faultplan_After.eq23
def faultplan_After.T4 : Bool × List (List Nat × List Nat) := (true, [([], []), ([], []), ([1], [1]), ([2], [2]), ([3], [3]), ([], []), ([5, 0, 0, 5], [0, 5]), ([4, 6, 0, 1, 2, 3, 4, 5, 6], [4])])
def faultplan_After.B4 : List Nat := [0, 0, 2, 6, 14, 0, 33, 127]
theorem faultplan_After.tab4 : rtab .any (opsOf Try.f15 4) = faultplan_After.T4 := by kernel_rfl
theorem faultplan_After.bits4 : waitsOk faultplan_After.T4.2 faultplan_After.B4 = true := by kernel_rfl
def faultplan_After.T25 : Bool × List (List Nat × List Nat) := (true, [([], []), ([], []), ([], []), ([1, 2], [1, 2]), ([0, 0], [0]), ([3, 4, 0, 1, 2, 3, 4], [3]), ([5, 0, 1, 2, 3, 4, 5], [])])
def faultplan_After.B25 : List Nat := [0, 0, 0, 6, 1, 31, 63]
theorem faultplan_After.tab25 : rtab .any (opsOf Try.f15 25) = faultplan_After.T25 := by kernel_rfl
theorem faultplan_After.bits25 : waitsOk faultplan_After.T25.2 faultplan_After.B25 = true := by kernel_rfl
set_option maxHeartbeats 16000000 in
set_option maxRecDepth 100000 in
theorem faultplan_After.calls (k : Nat) (a0_0 : Bool) (a0_1 : Bool) (a0_2 : Int) (a0_3 : Bool) (a0_4 : Bool) (a0_5 : Bool) (a0_6 : Bool) (a0_7 : Int) (a0_8 : Bool) (a0_9 : Bool) (a0_10 : Bool) (a0_11 : Bool) (a0_12 : Bool) (a0_13 : Bool) (a0_14 : Bool) (a0_15 : Bool) (a0_16 : Int) (r1 : Bool) (r2 : Bool) (r3 : Int) (r4 : Bool) (r5 : Bool) (r6 : Bool) (r7 : Bool) (r8 : Int) (r9 : Bool) (r10 : Bool) (r11 : Bool) (r12 : Bool) (r13 : Bool) (r14 : Bool) (r15 : Bool) (r16 : Bool) (r17 : Int) (r18 : Bool) (r19 : Int) (w : World) (h : faultplan_After.f k a0_0 a0_1 a0_2 a0_3 a0_4 a0_5 a0_6 a0_7 a0_8 a0_9 a0_10 a0_11 a0_12 a0_13 a0_14 a0_15 a0_16 = some (r1, r2, r3, r4, r5, r6, r7, r8, r9, r10, r11, r12, r13, r14, r15, r16, r17, r18, r19)) :
    Calls Try.prog 15 #[.agg #[.bool a0_0, .bool a0_1, .int .i64 a0_2, .bool a0_3, .bool a0_4, .bool a0_5, .bool a0_6, .int .i64 a0_7, .bool a0_8, .bool a0_9, .bool a0_10, .bool a0_11, .bool a0_12, .bool a0_13, .bool a0_14, .bool a0_15, .int .i64 a0_16]] w fun e w' => e = .returned (.tuple #[.agg #[.bool r1, .bool r2, .int .i64 r3, .bool r4, .bool r5, .bool r6, .bool r7, .int .i64 r8, .bool r9, .bool r10, .bool r11, .bool r12, .bool r13, .bool r14, .bool r15, .bool r16, .int .i64 r17], .bool r18, .int .i64 r19]) ∧ Below w.heap.size w w' := by
  have hu23 := Try.underlying23
  have hu28 := Try.underlying28
  have HB := Aside0.mk (Below.refl w.heap.size w)
  obtain ⟨⟨p1, p2, p3, p4, p5, e⟩, hp, h2⟩ := Option.bind_eq_some_iff.1 h
  dsimp only at h2
  have HP := Aside0.mk hp
  clear h hp
  by_cases he : e = 0
  · subst he
    rw [if_pos rfl] at h2
    obtain ⟨⟨s0, s1, s2, s3, s4, s5, s6, s7, s8, s9, s10, s11, s12, s13, s14, s15, s16⟩, hs, h3⟩ := Option.bind_eq_some_iff.1 h2
    simp only [Option.some.injEq, Prod.mk.injEq] at h3
    obtain ⟨rfl, rfl, rfl, rfl, rfl, rfl, rfl, rfl, rfl, rfl, rfl, rfl, rfl, rfl, rfl, rfl, rfl, rfl, rfl⟩ := h3
    have HS := Aside0.mk hs
    clear hs h2
    go_enter Try.func15, Try.ntmps15
    go_upto_region 4 with (first
      | ((with_reducible refine gate_dst (N := 1) rfl ?_); refine box_event ?hg (N := 1) ?hd (cs := #[.bool a0_0, .bool a0_1, .int .i64 a0_2, .bool a0_3, .bool a0_4, .bool a0_5, .bool a0_6, .int .i64 a0_7, .bool a0_8, .bool a0_9, .bool a0_10, .bool a0_11, .bool a0_12, .bool a0_13, .bool a0_14, .bool a0_15, .int .i64 a0_16]) (t := 23) ?hr ?_; (case hd => rfl); (case hg => rfl); (case hr => first | (go_simp; done) | (go_simp; rfl)); intro G hg w3 hbox hb; have GBK : Aside0 (w.heap.size ≤ G) := Aside0.mk (by rw [hg]; exact below_size HB.out); have BK := Aside0.mk hbox; have n0_ := Aside0.mk (below_step HB.out hb); clear HB; have HB := n0_; clear n0_ hbox hb hg)
      | ((with_reducible refine gate_dst (N := 2) rfl ?_); refine box_event ?hg (N := 2) ?hd (cs := #[.bool false, .bool false, .int .i64 0, .bool false, .bool false, .bool false, .bool false, .int .i64 0, .bool false, .bool false, .bool false, .bool false, .bool false, .bool false, .bool false, .bool false, .int .i64 0]) (t := 23) ?hr ?_; (case hd => rfl); (case hg => rfl); (case hr => first | (go_simp; done) | (go_simp; rfl)); intro g2 hg w4 hbox hb; have GB2 : Aside0 (w.heap.size ≤ g2) := Aside0.mk (by rw [hg]; exact below_size HB.out); have NEBKB2 := Aside0.mk (Nat.ne_of_lt (Nat.lt_of_lt_of_eq (blk_lt BK.out) hg.symm)); have m0_ := Aside0.mk (blk_below BK.out hb); clear BK; have BK := m0_; clear m0_; have B2 := Aside0.mk hbox; have n0_ := Aside0.mk (below_step HB.out hb); clear HB; have HB := n0_; clear n0_ hbox hb hg)
      | ((with_reducible refine gate_dst (N := 10) rfl ?_); (try (refine gate_guard (by rfl) ?_; dsimp only)); refine Kd.event_run (v := .agg #[.bool a0_0, .bool a0_1, .int .i64 a0_2, .bool a0_3, .bool a0_4, .bool a0_5, .bool a0_6, .int .i64 a0_7, .bool a0_8, .bool a0_9, .bool a0_10, .bool a0_11, .bool a0_12, .bool a0_13, .bool a0_14, .bool a0_15, .int .i64 a0_16]) rfl (faultplan_Plan.ld 23 (.tmp 1) _ rfl rfl BK.out hu23 (by kernel_rfl)) ?_)
      | (go_at_call 13; (with_reducible refine (faultplan_Plan.calls k a0_0 a0_1 a0_2 a0_3 a0_4 a0_5 a0_6 a0_7 a0_8 a0_9 a0_10 a0_11 a0_12 a0_13 a0_14 a0_15 a0_16 p1 p2 p3 p4 p5 0 _ HP.out).mono ?_); rintro e1 w5 ⟨rfl, hb⟩; have m0_ := Aside0.mk (blk_below BK.out hb); have m1_ := Aside0.mk (blk_below B2.out hb); clear BK B2; have BK := m0_; have B2 := m1_; clear m0_ m1_; have n0_ := Aside0.mk (below_step HB.out hb); clear HB; have HB := n0_; clear n0_; clear hb)
      | ((with_reducible refine gate_dst (N := 5) rfl ?_); refine box_event ?hg (N := 5) ?hd (cs := #[.int .i64 0, .int .i64 0, .int .i64 0, .int .i64 0, .int .i64 0]) (t := 28) ?hr ?_; (case hd => rfl); (case hg => rfl); (case hr => first | (go_simp; done) | (go_simp; rfl)); intro gp hg w6 hbox hb; have GBQ : Aside0 (w.heap.size ≤ gp) := Aside0.mk (by rw [hg]; exact below_size HB.out); have NEBKBQ := Aside0.mk (Nat.ne_of_lt (Nat.lt_of_lt_of_eq (blk_lt BK.out) hg.symm)); have NEB2BQ := Aside0.mk (Nat.ne_of_lt (Nat.lt_of_lt_of_eq (blk_lt B2.out) hg.symm)); have m0_ := Aside0.mk (blk_below BK.out hb); have m1_ := Aside0.mk (blk_below B2.out hb); clear BK B2; have BK := m0_; have B2 := m1_; clear m0_ m1_; have BQ := Aside0.mk hbox; have n0_ := Aside0.mk (below_step HB.out hb); clear HB; have HB := n0_; clear n0_ hbox hb hg)
      | ((with_reducible refine gate_store (t := 28) (p := 5) rfl ?_); refine faultplan_Plan.st (w0 := w) (cs := #[.int .i64 p1, .int .i64 p2, .int .i64 p3, .int .i64 p4, .int .i64 p5]) 28 rfl rfl rfl rfl rfl BQ.out (by kernel_rfl) rfl (by simp [Value.oneCell']) HB.out GBQ.out ?_; intro w7 hz hb hk; clear BQ HB; have BQ := Aside0.mk hz; have HB := Aside0.mk hb; have m0_ := Aside0.mk (hk _ _ NEBKBQ.out BK.out); have m1_ := Aside0.mk (hk _ _ NEB2BQ.out B2.out); clear BK B2; have BK := m0_; have B2 := m1_; clear m0_ m1_; clear hz hb hk; have hq0 : w7.cell? ⟨gp, 0, none⟩ = some (.int .i64 p1) := (blk_cell BQ.out 0).trans rfl; have hq2 : w7.cell? ⟨gp, 2, none⟩ = some (.int .i64 p3) := (blk_cell BQ.out 2).trans rfl))
    refine start_ (n := 8) (S := fun w' => w'.heap[G]? = some (.cells #[.bool a0_0, .bool a0_1, .int .i64 a0_2, .bool a0_3, .bool a0_4, .bool a0_5, .bool a0_6, .int .i64 a0_7, .bool a0_8, .bool a0_9, .bool a0_10, .bool a0_11, .bool a0_12, .bool a0_13, .bool a0_14, .bool a0_15, .int .i64 a0_16] 23 (0, 0))) (ds := []) #[false, false, false, false, false, false, false, false] (by kernel_rfl) rfl rfl ((blk_drew BK.out)) (fun hHeld => ?_)
    refine with_tabW faultplan_After.tab4 faultplan_After.bits4 (fun HT_ HW_ => ?_)
    refine pure_ (i := 1) (N := some 19) (v := ?_) (a' := ?_) #[false, true, false, false, false, false, false, false] rfl rfl (any_of HT_.out (by kernel_rfl)) (fun _ _ _ h => h) (Or.inl ⟨by rfl, ?_⟩) ?_ ?_
    rotate_left
    · intro w'
      go_simp
      with_reducible rfl
    rotate_left
    · simp only [Act.put, List.setIfInBounds_toArray, List.set_cons_zero, List.set_cons_succ, i64_w, i32_w]
      rfl
    refine take_ (i := 0) (N := some 18) (v := ?_) (a' := ?_) #[true, true, false, false, false, false, false, false] rfl rfl (take_ofW HT_.out HW_.out (by kernel_rfl)) (fun _ _ _ h => h) (Or.inl ⟨by rfl, ?_⟩) hHeld ?_ ?_
    rotate_left
    · intro w' s0
      refine (faultplan_Plan.ld 23 (.tmp 1) _ (by rfl) (by rfl) s0 hu23 (by kernel_rfl)).trans ?_
      with_reducible rfl
    rotate_left
    · simp only [Act.put, List.setIfInBounds_toArray, List.set_cons_zero, List.set_cons_succ, i64_w, i32_w]
      rfl
    refine take_ (i := 2) (N := some 20) (v := ?_) (a' := ?_) #[true, true, true, false, false, false, false, false] rfl rfl (take_ofW HT_.out HW_.out (by kernel_rfl)) (fun _ _ _ h => h) (Or.inl ⟨by rfl, ?_⟩) hHeld ?_ ?_
    rotate_left
    · intro w' s0
      have hc := (blk_cell s0 2).trans (rfl : _ = some (Value.int .i64 a0_2))
      go_simp
      with_reducible rfl
    rotate_left
    · simp only [Act.put, List.setIfInBounds_toArray, List.set_cons_zero, List.set_cons_succ, i64_w, i32_w]
      rfl
    refine pure_ (i := 3) (N := some 21) (v := ?_) (a' := ?_) #[true, true, true, true, false, false, false, false] rfl rfl (any_of HT_.out (by kernel_rfl)) (fun _ _ _ h => h) (Or.inl ⟨by rfl, ?_⟩) ?_ ?_
    rotate_left
    · intro w'
      go_simp
      with_reducible rfl
    rotate_left
    · simp only [Act.put, List.setIfInBounds_toArray, List.set_cons_zero, List.set_cons_succ, i64_w, i32_w]
      rfl
    refine pure_ (i := 4) (N := some 22) (v := ?_) (a' := ?_) #[true, true, true, true, true, false, false, false] rfl rfl (any_of HT_.out (by kernel_rfl)) (fun _ _ _ h => h) (Or.inl ⟨by rfl, ?_⟩) ?_ ?_
    rotate_left
    · intro w'
      go_simp
      with_reducible rfl
    rotate_left
    · simp only [Act.put, List.setIfInBounds_toArray, List.set_cons_zero, List.set_cons_succ, i64_w, i32_w]
      rfl
    refine one_ (i := 5) (N := some 7) #[true, true, true, true, true, true, false, false] rfl rfl (one_of HT_.out (by kernel_rfl)) (by decide) (fun K hK => ?_)
    refine box_step (by rfl) (N := 7) rfl (cs := #[.bool false, .bool false, .int .i64 0, .bool false, .bool false, .bool false, .bool false, .int .i64 0, .bool false, .bool false, .bool false, .bool false, .bool false, .bool false, .bool false, .bool false, .int .i64 0]) (t := 23) ?hr ?_
    case hr => first | (go_simp; done) | (go_simp; rfl)
    intro gb hg w8 hbox hb
    have GBB : Aside0 (w.heap.size ≤ gb) := Aside0.mk (by rw [hg]; exact below_size (by first | exact HB.out | exact below_drew1 HB.out))
    have NEBKBB := Aside0.mk (Nat.ne_of_lt (Nat.lt_of_lt_of_eq (blk_lt BK.out) hg.symm))
    have NEB2BB := Aside0.mk (Nat.ne_of_lt (Nat.lt_of_lt_of_eq (blk_lt B2.out) hg.symm))
    have NEBQBB := Aside0.mk (Nat.ne_of_lt (Nat.lt_of_lt_of_eq (blk_lt BQ.out) hg.symm))
    have n0_ := Aside0.mk (blk_below (by first | exact BK.out | exact blk_drew BK.out) hb)
    have n1_ := Aside0.mk (blk_below (by first | exact B2.out | exact blk_drew B2.out) hb)
    have n2_ := Aside0.mk (blk_below (by first | exact BQ.out | exact blk_drew BQ.out) hb)
    have n3_ := Aside0.mk (below_step (by first | exact HB.out | exact below_drew1 HB.out) hb)
    have BB := Aside0.mk hbox
    clear HB BK B2 BQ hbox hb hg
    have BK := n0_
    have B2 := n1_
    have BQ := n2_
    have HB := n3_
    clear n0_ n1_ n2_ n3_
    refine hK.out _ _ (BK.out) (fun hHeld => ?_)
    clear hK K
    refine norm_ (a' := ?_) ?_ ?_
    rotate_left
    · show Act.put _ (some 7) _ = _
      simp only [Act.put, List.setIfInBounds_toArray, List.set_cons_zero, List.set_cons_succ, i64_w, i32_w]
      rfl
    refine one_ (i := 6) (N := none) #[true, true, true, true, true, true, true, false] rfl rfl (one_of HT_.out (by kernel_rfl)) (by decide) (fun K hK => ?_)
    refine faultplan_After.step1 23 (w0 := w) (old := #[.bool false, .bool false, .int .i64 0, .bool false, .bool false, .bool false, .bool false, .int .i64 0, .bool false, .bool false, .bool false, .bool false, .bool false, .bool false, .bool false, .bool false, .int .i64 0]) (cs := #[.bool a0_0, .bool a0_1, .int .i64 a0_2, .bool a0_3, .bool a0_4, .bool a0_5, .bool a0_6, .int .i64 a0_7, .bool a0_8, .bool a0_9, .bool a0_10, .bool a0_11, .bool a0_12, .bool a0_13, .bool a0_14, .bool a0_15, .int .i64 a0_16]) (by rfl) rfl rfl rfl rfl BB.out (by kernel_rfl) rfl (by simp [Value.oneCell']) HB.out GBB.out ?_
    intro w9 hz hb hk
    have n0_ := Aside0.mk hz
    have n1_ := Aside0.mk hb
    have n2_ := Aside0.mk (hk _ _ NEBKBB.out BK.out)
    have n3_ := Aside0.mk (hk _ _ NEB2BB.out B2.out)
    have n4_ := Aside0.mk (hk _ _ NEBQBB.out BQ.out)
    clear BB HB BK B2 BQ hz hb hk
    have BB := n0_
    have HB := n1_
    have BK := n2_
    have B2 := n3_
    have BQ := n4_
    clear n0_ n1_ n2_ n3_ n4_
    refine hK.out _ _ (BK.out) (fun hHeld => ?_)
    clear hK K
    refine pure_ (i := 7) (N := some 8) (v := ?_) (a' := ?_) #[true, true, true, true, true, true, true, true] rfl rfl (any_of HT_.out (by kernel_rfl)) (fun _ _ _ h => h) (Or.inl ⟨by rfl, ?_⟩) ?_ ?_
    rotate_left
    · intro w'
      go_simp
      with_reducible rfl
    rotate_left
    · simp only [Act.put, List.setIfInBounds_toArray, List.set_cons_zero, List.set_cons_succ, i64_w, i32_w]
      rfl
    refine done_ (done_of HT_.out (by kernel_rfl)) ?_
    have hq0 := (blk_cell BQ.out 0).trans (rfl : _ = some (Value.int .i64 p1))
    have hq2 := (blk_cell BQ.out 2).trans (rfl : _ = some (Value.int .i64 p3))
    go_upto_block 0 with fail
    go_cut [] from 25 to 71 (fun wx => Aside0 (wx.heap[G]? = some (.cells #[.bool s0, .bool s1, .int .i64 s2, .bool s3, .bool s4, .bool s5, .bool s6, .int .i64 s7, .bool s8, .bool s9, .bool s10, .bool s11, .bool s12, .bool s13, .bool s14, .bool s15, .int .i64 s16] 23 (0, 0))) ∧ Aside0 (wx.heap[g2]? = some (.cells #[.bool false, .bool false, .int .i64 0, .bool false, .bool false, .bool false, .bool false, .int .i64 0, .bool false, .bool false, .bool false, .bool false, .bool false, .bool false, .bool false, .bool false, .int .i64 0] 23 (0, 0))) ∧ Aside0 (wx.heap[gb]? = some (.cells #[.bool a0_0, .bool a0_1, .int .i64 a0_2, .bool a0_3, .bool a0_4, .bool a0_5, .bool a0_6, .int .i64 a0_7, .bool a0_8, .bool a0_9, .bool a0_10, .bool a0_11, .bool a0_12, .bool a0_13, .bool a0_14, .bool a0_15, .int .i64 a0_16] 23 (0, 0))) ∧ Aside0 (Below w.heap.size w wx))
    case first =>
      have h0 := HS.out
      unfold faultplan_After.step at h0
      by_cases h2 : p1 = 2
      · rw [if_pos h2] at h0
        subst h2
        have HW := Aside0.mk h0
        clear h0 HS
        go_wp2_with (first | (go_at_call 26; (refine (faultplan_waited.calls G a0_0 a0_1 a0_2 a0_3 a0_4 a0_5 a0_6 a0_7 a0_8 a0_9 a0_10 a0_11 a0_12 a0_13 a0_14 a0_15 a0_16 p3 s0 s1 s2 s3 s4 s5 s6 s7 s8 s9 s10 s11 s12 s13 s14 s15 s16 w _ ⟨BK.out, GBK.out⟩ HB.out HW.out).mono ?_); rintro e9 w9 ⟨rfl, hi, hb, hk⟩; clear BK HB; have BK := Aside0.mk hi.1; have HB := Aside0.mk hb; have m0_ := Aside0.mk (KeepBut.blk hk B2.out (Ne.symm NEBKB2.out) (by simp)); have m1_ := Aside0.mk (KeepBut.blk hk BQ.out (Ne.symm NEBKBQ.out) (by simp)); have m2_ := Aside0.mk (KeepBut.blk hk BB.out (Ne.symm NEBKBB.out) (by simp)); clear B2 BQ BB; have B2 := m0_; have BQ := m1_; have BB := m2_; clear m0_ m1_ m2_; clear hi hb hk))
        go_meet
        exact ⟨BK, B2, BB, HB⟩
      rw [if_neg h2] at h0
      by_cases h8 : p1 = 8
      · rw [if_pos h8] at h0
        subst h8
        simp only [Option.some.injEq, Prod.mk.injEq] at h0
        obtain ⟨rfl, rfl, rfl, rfl, rfl, rfl, rfl, rfl, rfl, rfl, rfl, rfl, rfl, rfl, rfl, rfl, rfl⟩ := h0
        clear HS
        go_wp2_with (first
      | ((with_reducible refine gate_store (t := 4) (p := 32) rfl ?_); refine faultplan_After.st1 (w0 := w) 4 8 (.bool true) #[.bool a0_0, .bool a0_1, .int .i64 a0_2, .bool a0_3, .bool a0_4, .bool a0_5, .bool a0_6, .int .i64 a0_7, .bool true, .bool a0_9, .bool a0_10, .bool a0_11, .bool a0_12, .bool a0_13, .bool a0_14, .bool a0_15, .int .i64 a0_16] rfl rfl rfl rfl rfl rfl rfl BK.out (by kernel_rfl) (by simp) rfl HB.out GBK.out ?_; intro wf hz hb hk; clear BK HB; have BK := Aside0.mk hz; have HB := Aside0.mk hb; have m0_ := Aside0.mk (hk _ _ (Ne.symm NEBKB2.out) B2.out); have m1_ := Aside0.mk (hk _ _ (Ne.symm NEBKBQ.out) BQ.out); have m2_ := Aside0.mk (hk _ _ (Ne.symm NEBKBB.out) BB.out); clear B2 BQ BB; have B2 := m0_; have BQ := m1_; have BB := m2_; clear m0_ m1_ m2_; clear hz hb hk))
        go_meet
        exact ⟨BK, B2, BB, HB⟩
      rw [if_neg h8] at h0
      by_cases h7 : p1 = 7
      · rw [if_pos h7] at h0
        subst h7
        simp only [Option.some.injEq, Prod.mk.injEq] at h0
        obtain ⟨rfl, rfl, rfl, rfl, rfl, rfl, rfl, rfl, rfl, rfl, rfl, rfl, rfl, rfl, rfl, rfl, rfl⟩ := h0
        clear HS
        go_wp2_with (first
      | ((with_reducible refine gate_store (t := 4) (p := 35) rfl ?_); refine faultplan_After.st1 (w0 := w) 4 14 (.bool true) #[.bool a0_0, .bool a0_1, .int .i64 a0_2, .bool a0_3, .bool a0_4, .bool a0_5, .bool a0_6, .int .i64 a0_7, .bool a0_8, .bool a0_9, .bool a0_10, .bool a0_11, .bool a0_12, .bool a0_13, .bool true, .bool a0_15, .int .i64 a0_16] rfl rfl rfl rfl rfl rfl rfl BK.out (by kernel_rfl) (by simp) rfl HB.out GBK.out ?_; intro wf hz hb hk; clear BK HB; have BK := Aside0.mk hz; have HB := Aside0.mk hb; have m0_ := Aside0.mk (hk _ _ (Ne.symm NEBKB2.out) B2.out); have m1_ := Aside0.mk (hk _ _ (Ne.symm NEBKBQ.out) BQ.out); have m2_ := Aside0.mk (hk _ _ (Ne.symm NEBKBB.out) BB.out); clear B2 BQ BB; have B2 := m0_; have BQ := m1_; have BB := m2_; clear m0_ m1_ m2_; clear hz hb hk)
      | ((with_reducible refine gate_store (t := 4) (p := 36) rfl ?_); refine faultplan_After.st1 (w0 := w) 4 8 (.bool true) #[.bool a0_0, .bool a0_1, .int .i64 a0_2, .bool a0_3, .bool a0_4, .bool a0_5, .bool a0_6, .int .i64 a0_7, .bool true, .bool a0_9, .bool a0_10, .bool a0_11, .bool a0_12, .bool a0_13, .bool true, .bool a0_15, .int .i64 a0_16] rfl rfl rfl rfl rfl rfl rfl BK.out (by kernel_rfl) (by simp) rfl HB.out GBK.out ?_; intro wf hz hb hk; clear BK HB; have BK := Aside0.mk hz; have HB := Aside0.mk hb; have m0_ := Aside0.mk (hk _ _ (Ne.symm NEBKB2.out) B2.out); have m1_ := Aside0.mk (hk _ _ (Ne.symm NEBKBQ.out) BQ.out); have m2_ := Aside0.mk (hk _ _ (Ne.symm NEBKBB.out) BB.out); clear B2 BQ BB; have B2 := m0_; have BQ := m1_; have BB := m2_; clear m0_ m1_ m2_; clear hz hb hk))
        go_meet
        exact ⟨BK, B2, BB, HB⟩
      rw [if_neg h7] at h0
      by_cases h9 : p1 = 9
      · rw [if_pos h9] at h0
        subst h9
        simp only [Option.some.injEq, Prod.mk.injEq] at h0
        obtain ⟨rfl, rfl, rfl, rfl, rfl, rfl, rfl, rfl, rfl, rfl, rfl, rfl, rfl, rfl, rfl, rfl, rfl⟩ := h0
        clear HS
        go_wp2_with (first
      | ((with_reducible refine gate_store (t := 4) (p := 39) rfl ?_); refine faultplan_After.st1 (w0 := w) 4 10 (.bool true) #[.bool a0_0, .bool a0_1, .int .i64 a0_2, .bool a0_3, .bool a0_4, .bool a0_5, .bool a0_6, .int .i64 a0_7, .bool a0_8, .bool a0_9, .bool true, .bool a0_11, .bool a0_12, .bool a0_13, .bool a0_14, .bool a0_15, .int .i64 a0_16] rfl rfl rfl rfl rfl rfl rfl BK.out (by kernel_rfl) (by simp) rfl HB.out GBK.out ?_; intro wf hz hb hk; clear BK HB; have BK := Aside0.mk hz; have HB := Aside0.mk hb; have m0_ := Aside0.mk (hk _ _ (Ne.symm NEBKB2.out) B2.out); have m1_ := Aside0.mk (hk _ _ (Ne.symm NEBKBQ.out) BQ.out); have m2_ := Aside0.mk (hk _ _ (Ne.symm NEBKBB.out) BB.out); clear B2 BQ BB; have B2 := m0_; have BQ := m1_; have BB := m2_; clear m0_ m1_ m2_; clear hz hb hk)
      | ((with_reducible refine gate_store (t := 4) (p := 40) rfl ?_); refine faultplan_After.st1 (w0 := w) 4 11 (.bool true) #[.bool a0_0, .bool a0_1, .int .i64 a0_2, .bool a0_3, .bool a0_4, .bool a0_5, .bool a0_6, .int .i64 a0_7, .bool a0_8, .bool a0_9, .bool true, .bool true, .bool a0_12, .bool a0_13, .bool a0_14, .bool a0_15, .int .i64 a0_16] rfl rfl rfl rfl rfl rfl rfl BK.out (by kernel_rfl) (by simp) rfl HB.out GBK.out ?_; intro wf hz hb hk; clear BK HB; have BK := Aside0.mk hz; have HB := Aside0.mk hb; have m0_ := Aside0.mk (hk _ _ (Ne.symm NEBKB2.out) B2.out); have m1_ := Aside0.mk (hk _ _ (Ne.symm NEBKBQ.out) BQ.out); have m2_ := Aside0.mk (hk _ _ (Ne.symm NEBKBB.out) BB.out); clear B2 BQ BB; have B2 := m0_; have BQ := m1_; have BB := m2_; clear m0_ m1_ m2_; clear hz hb hk)
      | ((with_reducible refine gate_store (t := 4) (p := 41) rfl ?_); refine faultplan_After.st1 (w0 := w) 4 8 (.bool true) #[.bool a0_0, .bool a0_1, .int .i64 a0_2, .bool a0_3, .bool a0_4, .bool a0_5, .bool a0_6, .int .i64 a0_7, .bool true, .bool a0_9, .bool true, .bool true, .bool a0_12, .bool a0_13, .bool a0_14, .bool a0_15, .int .i64 a0_16] rfl rfl rfl rfl rfl rfl rfl BK.out (by kernel_rfl) (by simp) rfl HB.out GBK.out ?_; intro wf hz hb hk; clear BK HB; have BK := Aside0.mk hz; have HB := Aside0.mk hb; have m0_ := Aside0.mk (hk _ _ (Ne.symm NEBKB2.out) B2.out); have m1_ := Aside0.mk (hk _ _ (Ne.symm NEBKBQ.out) BQ.out); have m2_ := Aside0.mk (hk _ _ (Ne.symm NEBKBB.out) BB.out); clear B2 BQ BB; have B2 := m0_; have BQ := m1_; have BB := m2_; clear m0_ m1_ m2_; clear hz hb hk))
        go_meet
        exact ⟨BK, B2, BB, HB⟩
      rw [if_neg h9] at h0
      by_cases h10 : p1 = 10
      · rw [if_pos h10] at h0
        subst h10
        simp only [Option.some.injEq, Prod.mk.injEq] at h0
        obtain ⟨rfl, rfl, rfl, rfl, rfl, rfl, rfl, rfl, rfl, rfl, rfl, rfl, rfl, rfl, rfl, rfl, rfl⟩ := h0
        clear HS
        cases a0_11
        ·
          have hc11 := (blk_cell BK.out 11).trans (rfl : _ = some (Value.bool false))
          go_wp2_with (first
      | ((with_reducible refine gate_store (t := 3) (p := 49) rfl ?_); refine faultplan_After.st1 (w0 := w) 3 7 (.int .i64 1) #[.bool a0_0, .bool a0_1, .int .i64 a0_2, .bool a0_3, .bool a0_4, .bool a0_5, .bool a0_6, .int .i64 1, .bool a0_8, .bool a0_9, .bool a0_10, .bool false, .bool a0_12, .bool a0_13, .bool a0_14, .bool a0_15, .int .i64 a0_16] rfl rfl rfl rfl rfl rfl rfl BK.out (by kernel_rfl) (by simp) rfl HB.out GBK.out ?_; intro wf hz hb hk; clear BK HB; have BK := Aside0.mk hz; have HB := Aside0.mk hb; have m0_ := Aside0.mk (hk _ _ (Ne.symm NEBKB2.out) B2.out); have m1_ := Aside0.mk (hk _ _ (Ne.symm NEBKBQ.out) BQ.out); have m2_ := Aside0.mk (hk _ _ (Ne.symm NEBKBB.out) BB.out); clear B2 BQ BB; have B2 := m0_; have BQ := m1_; have BB := m2_; clear m0_ m1_ m2_; clear hz hb hk)
      | ((with_reducible refine gate_store (t := 4) (p := 50) rfl ?_); refine faultplan_After.st1 (w0 := w) 4 12 (.bool false) #[.bool a0_0, .bool a0_1, .int .i64 a0_2, .bool a0_3, .bool a0_4, .bool a0_5, .bool a0_6, .int .i64 1, .bool a0_8, .bool a0_9, .bool a0_10, .bool false, .bool false, .bool a0_13, .bool a0_14, .bool a0_15, .int .i64 a0_16] rfl rfl rfl rfl rfl rfl rfl BK.out (by kernel_rfl) (by simp) rfl HB.out GBK.out ?_; intro wf hz hb hk; clear BK HB; have BK := Aside0.mk hz; have HB := Aside0.mk hb; have m0_ := Aside0.mk (hk _ _ (Ne.symm NEBKB2.out) B2.out); have m1_ := Aside0.mk (hk _ _ (Ne.symm NEBKBQ.out) BQ.out); have m2_ := Aside0.mk (hk _ _ (Ne.symm NEBKBB.out) BB.out); clear B2 BQ BB; have B2 := m0_; have BQ := m1_; have BB := m2_; clear m0_ m1_ m2_; clear hz hb hk)
      | ((with_reducible refine gate_store (t := 4) (p := 51) rfl ?_); refine faultplan_After.st1 (w0 := w) 4 8 (.bool false) #[.bool a0_0, .bool a0_1, .int .i64 a0_2, .bool a0_3, .bool a0_4, .bool a0_5, .bool a0_6, .int .i64 1, .bool false, .bool a0_9, .bool a0_10, .bool false, .bool false, .bool a0_13, .bool a0_14, .bool a0_15, .int .i64 a0_16] rfl rfl rfl rfl rfl rfl rfl BK.out (by kernel_rfl) (by simp) rfl HB.out GBK.out ?_; intro wf hz hb hk; clear BK HB; have BK := Aside0.mk hz; have HB := Aside0.mk hb; have m0_ := Aside0.mk (hk _ _ (Ne.symm NEBKB2.out) B2.out); have m1_ := Aside0.mk (hk _ _ (Ne.symm NEBKBQ.out) BQ.out); have m2_ := Aside0.mk (hk _ _ (Ne.symm NEBKBB.out) BB.out); clear B2 BQ BB; have B2 := m0_; have BQ := m1_; have BB := m2_; clear m0_ m1_ m2_; clear hz hb hk))
          go_meet
          exact ⟨BK, B2, BB, HB⟩
        ·
          have hc11 := (blk_cell BK.out 11).trans (rfl : _ = some (Value.bool true))
          go_wp2_with (first
      | ((with_reducible refine gate_store (t := 3) (p := 49) rfl ?_); refine faultplan_After.st1 (w0 := w) 3 7 (.int .i64 1) #[.bool a0_0, .bool a0_1, .int .i64 a0_2, .bool a0_3, .bool a0_4, .bool a0_5, .bool a0_6, .int .i64 1, .bool a0_8, .bool a0_9, .bool a0_10, .bool true, .bool a0_12, .bool a0_13, .bool a0_14, .bool a0_15, .int .i64 a0_16] rfl rfl rfl rfl rfl rfl rfl BK.out (by kernel_rfl) (by simp) rfl HB.out GBK.out ?_; intro wf hz hb hk; clear BK HB; have BK := Aside0.mk hz; have HB := Aside0.mk hb; have m0_ := Aside0.mk (hk _ _ (Ne.symm NEBKB2.out) B2.out); have m1_ := Aside0.mk (hk _ _ (Ne.symm NEBKBQ.out) BQ.out); have m2_ := Aside0.mk (hk _ _ (Ne.symm NEBKBB.out) BB.out); clear B2 BQ BB; have B2 := m0_; have BQ := m1_; have BB := m2_; clear m0_ m1_ m2_; clear hz hb hk)
      | ((with_reducible refine gate_store (t := 4) (p := 50) rfl ?_); refine faultplan_After.st1 (w0 := w) 4 12 (.bool false) #[.bool a0_0, .bool a0_1, .int .i64 a0_2, .bool a0_3, .bool a0_4, .bool a0_5, .bool a0_6, .int .i64 1, .bool a0_8, .bool a0_9, .bool a0_10, .bool true, .bool false, .bool a0_13, .bool a0_14, .bool a0_15, .int .i64 a0_16] rfl rfl rfl rfl rfl rfl rfl BK.out (by kernel_rfl) (by simp) rfl HB.out GBK.out ?_; intro wf hz hb hk; clear BK HB; have BK := Aside0.mk hz; have HB := Aside0.mk hb; have m0_ := Aside0.mk (hk _ _ (Ne.symm NEBKB2.out) B2.out); have m1_ := Aside0.mk (hk _ _ (Ne.symm NEBKBQ.out) BQ.out); have m2_ := Aside0.mk (hk _ _ (Ne.symm NEBKBB.out) BB.out); clear B2 BQ BB; have B2 := m0_; have BQ := m1_; have BB := m2_; clear m0_ m1_ m2_; clear hz hb hk)
      | ((with_reducible refine gate_store (t := 4) (p := 51) rfl ?_); refine faultplan_After.st1 (w0 := w) 4 8 (.bool (bits .and .i64 a0_2 2 != 0)) #[.bool a0_0, .bool a0_1, .int .i64 a0_2, .bool a0_3, .bool a0_4, .bool a0_5, .bool a0_6, .int .i64 1, .bool (bits .and .i64 a0_2 2 != 0), .bool a0_9, .bool a0_10, .bool true, .bool false, .bool a0_13, .bool a0_14, .bool a0_15, .int .i64 a0_16] rfl rfl rfl rfl rfl rfl rfl BK.out (by kernel_rfl) (by simp) rfl HB.out GBK.out ?_; intro wf hz hb hk; clear BK HB; have BK := Aside0.mk hz; have HB := Aside0.mk hb; have m0_ := Aside0.mk (hk _ _ (Ne.symm NEBKB2.out) B2.out); have m1_ := Aside0.mk (hk _ _ (Ne.symm NEBKBQ.out) BQ.out); have m2_ := Aside0.mk (hk _ _ (Ne.symm NEBKBB.out) BB.out); clear B2 BQ BB; have B2 := m0_; have BQ := m1_; have BB := m2_; clear m0_ m1_ m2_; clear hz hb hk))
          go_meet
          exact ⟨BK, B2, BB, HB⟩
      rw [if_neg h10] at h0
      by_cases h11 : p1 = 11
      · rw [if_pos h11] at h0
        subst h11
        simp only [Option.some.injEq, Prod.mk.injEq] at h0
        obtain ⟨rfl, rfl, rfl, rfl, rfl, rfl, rfl, rfl, rfl, rfl, rfl, rfl, rfl, rfl, rfl, rfl, rfl⟩ := h0
        clear HS
        go_wp2_with (first
      | ((with_reducible refine gate_store (t := 4) (p := 54) rfl ?_); refine faultplan_After.st1 (w0 := w) 4 12 (.bool true) #[.bool a0_0, .bool a0_1, .int .i64 a0_2, .bool a0_3, .bool a0_4, .bool a0_5, .bool a0_6, .int .i64 a0_7, .bool a0_8, .bool a0_9, .bool a0_10, .bool a0_11, .bool true, .bool a0_13, .bool a0_14, .bool a0_15, .int .i64 a0_16] rfl rfl rfl rfl rfl rfl rfl BK.out (by kernel_rfl) (by simp) rfl HB.out GBK.out ?_; intro wf hz hb hk; clear BK HB; have BK := Aside0.mk hz; have HB := Aside0.mk hb; have m0_ := Aside0.mk (hk _ _ (Ne.symm NEBKB2.out) B2.out); have m1_ := Aside0.mk (hk _ _ (Ne.symm NEBKBQ.out) BQ.out); have m2_ := Aside0.mk (hk _ _ (Ne.symm NEBKBB.out) BB.out); clear B2 BQ BB; have B2 := m0_; have BQ := m1_; have BB := m2_; clear m0_ m1_ m2_; clear hz hb hk))
        go_meet
        exact ⟨BK, B2, BB, HB⟩
      rw [if_neg h11] at h0
      by_cases h3 : p1 = 3
      · rw [if_pos h3] at h0
        subst h3
        simp only [Option.some.injEq, Prod.mk.injEq] at h0
        obtain ⟨rfl, rfl, rfl, rfl, rfl, rfl, rfl, rfl, rfl, rfl, rfl, rfl, rfl, rfl, rfl, rfl, rfl⟩ := h0
        clear HS
        go_wp2_with (first
      | ((with_reducible refine gate_store (t := 3) (p := 58) rfl ?_); refine faultplan_After.st1 (w0 := w) 3 7 (.int .i64 1) #[.bool a0_0, .bool a0_1, .int .i64 a0_2, .bool a0_3, .bool a0_4, .bool a0_5, .bool a0_6, .int .i64 1, .bool a0_8, .bool a0_9, .bool a0_10, .bool a0_11, .bool a0_12, .bool a0_13, .bool a0_14, .bool a0_15, .int .i64 a0_16] rfl rfl rfl rfl rfl rfl rfl BK.out (by kernel_rfl) (by simp) rfl HB.out GBK.out ?_; intro wf hz hb hk; clear BK HB; have BK := Aside0.mk hz; have HB := Aside0.mk hb; have m0_ := Aside0.mk (hk _ _ (Ne.symm NEBKB2.out) B2.out); have m1_ := Aside0.mk (hk _ _ (Ne.symm NEBKBQ.out) BQ.out); have m2_ := Aside0.mk (hk _ _ (Ne.symm NEBKBB.out) BB.out); clear B2 BQ BB; have B2 := m0_; have BQ := m1_; have BB := m2_; clear m0_ m1_ m2_; clear hz hb hk)
      | ((with_reducible refine gate_store (t := 3) (p := 59) rfl ?_); refine faultplan_After.st1 (w0 := w) 3 16 (.int .i64 0) #[.bool a0_0, .bool a0_1, .int .i64 a0_2, .bool a0_3, .bool a0_4, .bool a0_5, .bool a0_6, .int .i64 1, .bool a0_8, .bool a0_9, .bool a0_10, .bool a0_11, .bool a0_12, .bool a0_13, .bool a0_14, .bool a0_15, .int .i64 0] rfl rfl rfl rfl rfl rfl rfl BK.out (by kernel_rfl) (by simp) rfl HB.out GBK.out ?_; intro wf hz hb hk; clear BK HB; have BK := Aside0.mk hz; have HB := Aside0.mk hb; have m0_ := Aside0.mk (hk _ _ (Ne.symm NEBKB2.out) B2.out); have m1_ := Aside0.mk (hk _ _ (Ne.symm NEBKBQ.out) BQ.out); have m2_ := Aside0.mk (hk _ _ (Ne.symm NEBKBB.out) BB.out); clear B2 BQ BB; have B2 := m0_; have BQ := m1_; have BB := m2_; clear m0_ m1_ m2_; clear hz hb hk)
      | ((with_reducible refine gate_store (t := 4) (p := 60) rfl ?_); refine faultplan_After.st1 (w0 := w) 4 10 (.bool true) #[.bool a0_0, .bool a0_1, .int .i64 a0_2, .bool a0_3, .bool a0_4, .bool a0_5, .bool a0_6, .int .i64 1, .bool a0_8, .bool a0_9, .bool true, .bool a0_11, .bool a0_12, .bool a0_13, .bool a0_14, .bool a0_15, .int .i64 0] rfl rfl rfl rfl rfl rfl rfl BK.out (by kernel_rfl) (by simp) rfl HB.out GBK.out ?_; intro wf hz hb hk; clear BK HB; have BK := Aside0.mk hz; have HB := Aside0.mk hb; have m0_ := Aside0.mk (hk _ _ (Ne.symm NEBKB2.out) B2.out); have m1_ := Aside0.mk (hk _ _ (Ne.symm NEBKBQ.out) BQ.out); have m2_ := Aside0.mk (hk _ _ (Ne.symm NEBKBB.out) BB.out); clear B2 BQ BB; have B2 := m0_; have BQ := m1_; have BB := m2_; clear m0_ m1_ m2_; clear hz hb hk)
      | ((with_reducible refine gate_store (t := 4) (p := 61) rfl ?_); refine faultplan_After.st1 (w0 := w) 4 11 (.bool true) #[.bool a0_0, .bool a0_1, .int .i64 a0_2, .bool a0_3, .bool a0_4, .bool a0_5, .bool a0_6, .int .i64 1, .bool a0_8, .bool a0_9, .bool true, .bool true, .bool a0_12, .bool a0_13, .bool a0_14, .bool a0_15, .int .i64 0] rfl rfl rfl rfl rfl rfl rfl BK.out (by kernel_rfl) (by simp) rfl HB.out GBK.out ?_; intro wf hz hb hk; clear BK HB; have BK := Aside0.mk hz; have HB := Aside0.mk hb; have m0_ := Aside0.mk (hk _ _ (Ne.symm NEBKB2.out) B2.out); have m1_ := Aside0.mk (hk _ _ (Ne.symm NEBKBQ.out) BQ.out); have m2_ := Aside0.mk (hk _ _ (Ne.symm NEBKBB.out) BB.out); clear B2 BQ BB; have B2 := m0_; have BQ := m1_; have BB := m2_; clear m0_ m1_ m2_; clear hz hb hk)
      | ((with_reducible refine gate_store (t := 4) (p := 62) rfl ?_); refine faultplan_After.st1 (w0 := w) 4 8 (.bool (bits .and .i64 a0_2 2 != 0)) #[.bool a0_0, .bool a0_1, .int .i64 a0_2, .bool a0_3, .bool a0_4, .bool a0_5, .bool a0_6, .int .i64 1, .bool (bits .and .i64 a0_2 2 != 0), .bool a0_9, .bool true, .bool true, .bool a0_12, .bool a0_13, .bool a0_14, .bool a0_15, .int .i64 0] rfl rfl rfl rfl rfl rfl rfl BK.out (by kernel_rfl) (by simp) rfl HB.out GBK.out ?_; intro wf hz hb hk; clear BK HB; have BK := Aside0.mk hz; have HB := Aside0.mk hb; have m0_ := Aside0.mk (hk _ _ (Ne.symm NEBKB2.out) B2.out); have m1_ := Aside0.mk (hk _ _ (Ne.symm NEBKBQ.out) BQ.out); have m2_ := Aside0.mk (hk _ _ (Ne.symm NEBKBB.out) BB.out); clear B2 BQ BB; have B2 := m0_; have BQ := m1_; have BB := m2_; clear m0_ m1_ m2_; clear hz hb hk))
        go_meet
        exact ⟨BK, B2, BB, HB⟩
      rw [if_neg h3] at h0
      by_cases h6 : p1 = 6
      · rw [if_pos h6] at h0
        subst h6
        simp only [Option.some.injEq, Prod.mk.injEq] at h0
        obtain ⟨rfl, rfl, rfl, rfl, rfl, rfl, rfl, rfl, rfl, rfl, rfl, rfl, rfl, rfl, rfl, rfl, rfl⟩ := h0
        clear HS
        go_wp2_with (first
      | ((with_reducible refine gate_store (t := 3) (p := 65) rfl ?_); refine faultplan_After.st1 (w0 := w) 3 7 (.int .i64 1) #[.bool a0_0, .bool a0_1, .int .i64 a0_2, .bool a0_3, .bool a0_4, .bool a0_5, .bool a0_6, .int .i64 1, .bool a0_8, .bool a0_9, .bool a0_10, .bool a0_11, .bool a0_12, .bool a0_13, .bool a0_14, .bool a0_15, .int .i64 a0_16] rfl rfl rfl rfl rfl rfl rfl BK.out (by kernel_rfl) (by simp) rfl HB.out GBK.out ?_; intro wf hz hb hk; clear BK HB; have BK := Aside0.mk hz; have HB := Aside0.mk hb; have m0_ := Aside0.mk (hk _ _ (Ne.symm NEBKB2.out) B2.out); have m1_ := Aside0.mk (hk _ _ (Ne.symm NEBKBQ.out) BQ.out); have m2_ := Aside0.mk (hk _ _ (Ne.symm NEBKBB.out) BB.out); clear B2 BQ BB; have B2 := m0_; have BQ := m1_; have BB := m2_; clear m0_ m1_ m2_; clear hz hb hk)
      | ((with_reducible refine gate_store (t := 3) (p := 66) rfl ?_); refine faultplan_After.st1 (w0 := w) 3 16 (.int .i64 0) #[.bool a0_0, .bool a0_1, .int .i64 a0_2, .bool a0_3, .bool a0_4, .bool a0_5, .bool a0_6, .int .i64 1, .bool a0_8, .bool a0_9, .bool a0_10, .bool a0_11, .bool a0_12, .bool a0_13, .bool a0_14, .bool a0_15, .int .i64 0] rfl rfl rfl rfl rfl rfl rfl BK.out (by kernel_rfl) (by simp) rfl HB.out GBK.out ?_; intro wf hz hb hk; clear BK HB; have BK := Aside0.mk hz; have HB := Aside0.mk hb; have m0_ := Aside0.mk (hk _ _ (Ne.symm NEBKB2.out) B2.out); have m1_ := Aside0.mk (hk _ _ (Ne.symm NEBKBQ.out) BQ.out); have m2_ := Aside0.mk (hk _ _ (Ne.symm NEBKBB.out) BB.out); clear B2 BQ BB; have B2 := m0_; have BQ := m1_; have BB := m2_; clear m0_ m1_ m2_; clear hz hb hk)
      | ((with_reducible refine gate_store (t := 4) (p := 67) rfl ?_); refine faultplan_After.st1 (w0 := w) 4 12 (.bool false) #[.bool a0_0, .bool a0_1, .int .i64 a0_2, .bool a0_3, .bool a0_4, .bool a0_5, .bool a0_6, .int .i64 1, .bool a0_8, .bool a0_9, .bool a0_10, .bool a0_11, .bool false, .bool a0_13, .bool a0_14, .bool a0_15, .int .i64 0] rfl rfl rfl rfl rfl rfl rfl BK.out (by kernel_rfl) (by simp) rfl HB.out GBK.out ?_; intro wf hz hb hk; clear BK HB; have BK := Aside0.mk hz; have HB := Aside0.mk hb; have m0_ := Aside0.mk (hk _ _ (Ne.symm NEBKB2.out) B2.out); have m1_ := Aside0.mk (hk _ _ (Ne.symm NEBKBQ.out) BQ.out); have m2_ := Aside0.mk (hk _ _ (Ne.symm NEBKBB.out) BB.out); clear B2 BQ BB; have B2 := m0_; have BQ := m1_; have BB := m2_; clear m0_ m1_ m2_; clear hz hb hk))
        go_meet
        exact ⟨BK, B2, BB, HB⟩
      rw [if_neg h6] at h0
      by_cases h4 : p1 = 4
      · rw [if_pos h4] at h0
        subst h4
        simp only [Option.some.injEq, Prod.mk.injEq] at h0
        obtain ⟨rfl, rfl, rfl, rfl, rfl, rfl, rfl, rfl, rfl, rfl, rfl, rfl, rfl, rfl, rfl, rfl, rfl⟩ := h0
        clear HS
        go_wp2_with (first
      | ((with_reducible refine gate_store (t := 4) (p := 71) rfl ?_); refine faultplan_After.st1 (w0 := w) 4 12 (.bool true) #[.bool a0_0, .bool a0_1, .int .i64 a0_2, .bool a0_3, .bool a0_4, .bool a0_5, .bool a0_6, .int .i64 a0_7, .bool a0_8, .bool a0_9, .bool a0_10, .bool a0_11, .bool true, .bool a0_13, .bool a0_14, .bool a0_15, .int .i64 a0_16] rfl rfl rfl rfl rfl rfl rfl BK.out (by kernel_rfl) (by simp) rfl HB.out GBK.out ?_; intro wf hz hb hk; clear BK HB; have BK := Aside0.mk hz; have HB := Aside0.mk hb; have m0_ := Aside0.mk (hk _ _ (Ne.symm NEBKB2.out) B2.out); have m1_ := Aside0.mk (hk _ _ (Ne.symm NEBKBQ.out) BQ.out); have m2_ := Aside0.mk (hk _ _ (Ne.symm NEBKBB.out) BB.out); clear B2 BQ BB; have B2 := m0_; have BQ := m1_; have BB := m2_; clear m0_ m1_ m2_; clear hz hb hk))
        go_meet
        exact ⟨BK, B2, BB, HB⟩
      rw [if_neg h4] at h0
      by_cases h5 : p1 = 5
      · rw [if_pos h5] at h0
        subst h5
        simp only [Option.some.injEq, Prod.mk.injEq] at h0
        obtain ⟨rfl, rfl, rfl, rfl, rfl, rfl, rfl, rfl, rfl, rfl, rfl, rfl, rfl, rfl, rfl, rfl, rfl⟩ := h0
        clear HS
        go_wp2_with (first
      | ((with_reducible refine gate_store (t := 4) (p := 71) rfl ?_); refine faultplan_After.st1 (w0 := w) 4 12 (.bool true) #[.bool a0_0, .bool a0_1, .int .i64 a0_2, .bool a0_3, .bool a0_4, .bool a0_5, .bool a0_6, .int .i64 a0_7, .bool a0_8, .bool a0_9, .bool a0_10, .bool a0_11, .bool true, .bool a0_13, .bool a0_14, .bool a0_15, .int .i64 a0_16] rfl rfl rfl rfl rfl rfl rfl BK.out (by kernel_rfl) (by simp) rfl HB.out GBK.out ?_; intro wf hz hb hk; clear BK HB; have BK := Aside0.mk hz; have HB := Aside0.mk hb; have m0_ := Aside0.mk (hk _ _ (Ne.symm NEBKB2.out) B2.out); have m1_ := Aside0.mk (hk _ _ (Ne.symm NEBKBQ.out) BQ.out); have m2_ := Aside0.mk (hk _ _ (Ne.symm NEBKBB.out) BB.out); clear B2 BQ BB; have B2 := m0_; have BQ := m1_; have BB := m2_; clear m0_ m1_ m2_; clear hz hb hk))
        go_meet
        exact ⟨BK, B2, BB, HB⟩
      rw [if_neg h5] at h0
      simp only [Option.some.injEq, Prod.mk.injEq] at h0
      obtain ⟨rfl, rfl, rfl, rfl, rfl, rfl, rfl, rfl, rfl, rfl, rfl, rfl, rfl, rfl, rfl, rfl, rfl⟩ := h0
      clear HS
      go_wp2
      go_meet
      exact ⟨BK, B2, BB, HB⟩
    case rest =>
    obtain ⟨BK1, B21, BB1, HB1⟩ := hcut
    clear BK B2 HB BQ hq0 hq2 BB
    have BK := BK1
    have B2 := B21
    have BB := BB1
    have HB := HB1
    clear BK1 B21 HB1 BB1
    go_upto_region 25 with fail
    refine start_ (n := 7) (S := fun w' => w'.heap[G]? = some (.cells #[.bool s0, .bool s1, .int .i64 s2, .bool s3, .bool s4, .bool s5, .bool s6, .int .i64 s7, .bool s8, .bool s9, .bool s10, .bool s11, .bool s12, .bool s13, .bool s14, .bool s15, .int .i64 s16] 23 (0, 0)) ∧ w'.heap[gb]? = some (.cells #[.bool a0_0, .bool a0_1, .int .i64 a0_2, .bool a0_3, .bool a0_4, .bool a0_5, .bool a0_6, .int .i64 a0_7, .bool a0_8, .bool a0_9, .bool a0_10, .bool a0_11, .bool a0_12, .bool a0_13, .bool a0_14, .bool a0_15, .int .i64 a0_16] 23 (0, 0))) (ds := []) #[false, false, false, false, false, false, false] (by kernel_rfl) rfl rfl ⟨(blk_drew BK.out), (blk_drew BB.out)⟩ (fun hHeld => ?_)
    refine with_tabW faultplan_After.tab25 faultplan_After.bits25 (fun HT_ HW_ => ?_)
    refine take_ (i := 0) (N := some 72) (v := ?_) (a' := ?_) #[true, false, false, false, false, false, false] rfl rfl (take_ofW HT_.out HW_.out (by kernel_rfl)) (fun _ _ _ h => h) (Or.inl ⟨by rfl, ?_⟩) hHeld ?_ ?_
    rotate_left
    · rintro w' ⟨s0, s1⟩
      refine (faultplan_Plan.ld 23 (.tmp 1) _ (by rfl) (by rfl) s0 hu23 (by kernel_rfl)).trans ?_
      with_reducible rfl
    rotate_left
    · simp only [Act.put, List.setIfInBounds_toArray, List.set_cons_zero, List.set_cons_succ, i64_w, i32_w]
      rfl
    refine take_ (i := 1) (N := some 73) (v := ?_) (a' := ?_) #[true, true, false, false, false, false, false] rfl rfl (take_ofW HT_.out HW_.out (by kernel_rfl)) (fun _ _ _ h => h) (Or.inl ⟨by rfl, ?_⟩) hHeld ?_ ?_
    rotate_left
    · rintro w' ⟨s0, s1⟩
      refine (faultplan_Plan.ld 23 (.tmp 1) _ (by rfl) (by rfl) s0 hu23 (by kernel_rfl)).trans ?_
      with_reducible rfl
    rotate_left
    · simp only [Act.put, List.setIfInBounds_toArray, List.set_cons_zero, List.set_cons_succ, i64_w, i32_w]
      rfl
    refine take_ (i := 2) (N := some 74) (v := ?_) (a' := ?_) #[true, true, true, false, false, false, false] rfl rfl (take_ofW HT_.out HW_.out (by kernel_rfl)) (fun _ _ _ h => h) (Or.inl ⟨by rfl, ?_⟩) hHeld ?_ ?_
    rotate_left
    · rintro w' ⟨s0, s1⟩
      refine (faultplan_Plan.ld 23 (.tmp 7) _ (by rfl) (by rfl) s1 hu23 (by kernel_rfl)).trans ?_
      with_reducible rfl
    rotate_left
    · simp only [Act.put, List.setIfInBounds_toArray, List.set_cons_zero, List.set_cons_succ, i64_w, i32_w]
      rfl
    refine pure_ (i := 3) (N := some 75) (v := ?_) (a' := ?_) #[true, true, true, true, false, false, false] rfl rfl (any_of HT_.out (by kernel_rfl)) (fun _ _ _ h => h) (Or.inl ⟨by rfl, ?_⟩) ?_ ?_
    rotate_left
    · intro w'
      go_simp
      with_reducible rfl
    rotate_left
    · simp only [Act.put, List.setIfInBounds_toArray, List.set_cons_zero, List.set_cons_succ, i64_w, i32_w]
      rfl
    refine one_ (i := 4) (N := none) #[true, true, true, true, true, false, false] rfl rfl (one_of HT_.out (by kernel_rfl)) (by decide) (fun K hK => ?_)
    refine faultplan_After.step1 23 (w0 := w) (old := #[.bool false, .bool false, .int .i64 0, .bool false, .bool false, .bool false, .bool false, .int .i64 0, .bool false, .bool false, .bool false, .bool false, .bool false, .bool false, .bool false, .bool false, .int .i64 0]) (cs := #[.bool s0, .bool s1, .int .i64 s2, .bool s3, .bool s4, .bool s5, .bool s6, .int .i64 s7, .bool s8, .bool s9, .bool s10, .bool s11, .bool s12, .bool s13, .bool s14, .bool s15, .int .i64 s16]) (by rfl) rfl rfl rfl rfl (blk_drew B2.out) (by kernel_rfl) rfl (by simp [Value.oneCell']) (below_drew1 HB.out) GB2.out ?_
    intro w11 hz hb hk
    have n0_ := Aside0.mk hz
    have n1_ := Aside0.mk hb
    have n2_ := Aside0.mk (hk _ _ NEBKB2.out (blk_drew BK.out))
    have n3_ := Aside0.mk (hk _ _ (Ne.symm NEB2BB.out) (blk_drew BB.out))
    clear B2 HB BK BB hz hb hk
    have B2 := n0_
    have HB := n1_
    have BK := n2_
    have BB := n3_
    clear n0_ n1_ n2_ n3_
    refine hK.out _ _ ⟨BK.out, BB.out⟩ (fun hHeld => ?_)
    clear hK K
    refine pure_ (i := 5) (N := some 3) (v := ?_) (a' := ?_) #[true, true, true, true, true, true, false] rfl rfl (any_of HT_.out (by kernel_rfl)) (fun _ _ _ h => h) (Or.inl ⟨by rfl, ?_⟩) ?_ ?_
    rotate_left
    · intro w'
      go_simp
      with_reducible rfl
    rotate_left
    · simp only [Act.put, List.setIfInBounds_toArray, List.set_cons_zero, List.set_cons_succ, i64_w, i32_w]
      rfl
    refine pure_ (i := 6) (N := some 4) (v := ?_) (a' := ?_) #[true, true, true, true, true, true, true] rfl rfl (any_of HT_.out (by kernel_rfl)) (fun _ _ _ h => h) (Or.inl ⟨by rfl, ?_⟩) ?_ ?_
    rotate_left
    · intro w'
      go_simp
      with_reducible rfl
    rotate_left
    · simp only [Act.put, List.setIfInBounds_toArray, List.set_cons_zero, List.set_cons_succ, i64_w, i32_w]
      rfl
    refine done_ (done_of HT_.out (by kernel_rfl)) ?_
    go_wp2
    refine bodyPost_ret (results_ctt rfl _ _ g2 23 #[.bool s0, .bool s1, .int .i64 s2, .bool s3, .bool s4, .bool s5, .bool s6, .int .i64 s7, .bool s8, .bool s9, .bool s10, .bool s11, .bool s12, .bool s13, .bool s14, .bool s15, .int .i64 s16] (0, 0) _ rfl B2.out hu23 rfl (by kernel_rfl)) rfl ?_
    exact ⟨rfl, HB.out⟩
  · rw [if_neg he] at h2
    simp only [Option.some.injEq, Prod.mk.injEq] at h2
    obtain ⟨rfl, rfl, rfl, rfl, rfl, rfl, rfl, rfl, rfl, rfl, rfl, rfl, rfl, rfl, rfl, rfl, rfl, rfl, rfl⟩ := h2
    have he1 : (e != 0) = true := bne_iff_ne.mpr he
    go_enter Try.func15, Try.ntmps15
    go_wp2_with (first
      | ((with_reducible refine gate_dst (N := 1) rfl ?_); refine box_event ?hg (N := 1) ?hd (cs := #[.bool a0_0, .bool a0_1, .int .i64 a0_2, .bool a0_3, .bool a0_4, .bool a0_5, .bool a0_6, .int .i64 a0_7, .bool a0_8, .bool a0_9, .bool a0_10, .bool a0_11, .bool a0_12, .bool a0_13, .bool a0_14, .bool a0_15, .int .i64 a0_16]) (t := 23) ?hr ?_; (case hd => rfl); (case hg => rfl); (case hr => first | (go_simp; done) | (go_simp; rfl)); intro G hg w3 hbox hb; have GBK : Aside0 (w.heap.size ≤ G) := Aside0.mk (by rw [hg]; exact below_size HB.out); have BK := Aside0.mk hbox; have n0_ := Aside0.mk (below_step HB.out hb); clear HB; have HB := n0_; clear n0_ hbox hb hg)
      | ((with_reducible refine gate_dst (N := 2) rfl ?_); refine box_event ?hg (N := 2) ?hd (cs := #[.bool false, .bool false, .int .i64 0, .bool false, .bool false, .bool false, .bool false, .int .i64 0, .bool false, .bool false, .bool false, .bool false, .bool false, .bool false, .bool false, .bool false, .int .i64 0]) (t := 23) ?hr ?_; (case hd => rfl); (case hg => rfl); (case hr => first | (go_simp; done) | (go_simp; rfl)); intro g2 hg w4 hbox hb; have GB2 : Aside0 (w.heap.size ≤ g2) := Aside0.mk (by rw [hg]; exact below_size HB.out); have NEBKB2 := Aside0.mk (Nat.ne_of_lt (Nat.lt_of_lt_of_eq (blk_lt BK.out) hg.symm)); have m0_ := Aside0.mk (blk_below BK.out hb); clear BK; have BK := m0_; clear m0_; have B2 := Aside0.mk hbox; have n0_ := Aside0.mk (below_step HB.out hb); clear HB; have HB := n0_; clear n0_ hbox hb hg)
      | ((with_reducible refine gate_dst (N := 10) rfl ?_); (try (refine gate_guard (by rfl) ?_; dsimp only)); refine Kd.event_run (v := .agg #[.bool a0_0, .bool a0_1, .int .i64 a0_2, .bool a0_3, .bool a0_4, .bool a0_5, .bool a0_6, .int .i64 a0_7, .bool a0_8, .bool a0_9, .bool a0_10, .bool a0_11, .bool a0_12, .bool a0_13, .bool a0_14, .bool a0_15, .int .i64 a0_16]) rfl (faultplan_Plan.ld 23 (.tmp 1) _ rfl rfl BK.out hu23 (by kernel_rfl)) ?_)
      | (go_at_call 13; (with_reducible refine (faultplan_Plan.calls k a0_0 a0_1 a0_2 a0_3 a0_4 a0_5 a0_6 a0_7 a0_8 a0_9 a0_10 a0_11 a0_12 a0_13 a0_14 a0_15 a0_16 p1 p2 p3 p4 p5 e _ HP.out).mono ?_); rintro e1 w5 ⟨rfl, hb⟩; have m0_ := Aside0.mk (blk_below BK.out hb); have m1_ := Aside0.mk (blk_below B2.out hb); clear BK B2; have BK := m0_; have B2 := m1_; clear m0_ m1_; have n0_ := Aside0.mk (below_step HB.out hb); clear HB; have HB := n0_; clear n0_; clear hb)
      | ((with_reducible refine gate_dst (N := 5) rfl ?_); refine box_event ?hg (N := 5) ?hd (cs := #[.int .i64 0, .int .i64 0, .int .i64 0, .int .i64 0, .int .i64 0]) (t := 28) ?hr ?_; (case hd => rfl); (case hg => rfl); (case hr => first | (go_simp; done) | (go_simp; rfl)); intro gp hg w6 hbox hb; have GBQ : Aside0 (w.heap.size ≤ gp) := Aside0.mk (by rw [hg]; exact below_size HB.out); have NEBKBQ := Aside0.mk (Nat.ne_of_lt (Nat.lt_of_lt_of_eq (blk_lt BK.out) hg.symm)); have NEB2BQ := Aside0.mk (Nat.ne_of_lt (Nat.lt_of_lt_of_eq (blk_lt B2.out) hg.symm)); have m0_ := Aside0.mk (blk_below BK.out hb); have m1_ := Aside0.mk (blk_below B2.out hb); clear BK B2; have BK := m0_; have B2 := m1_; clear m0_ m1_; have BQ := Aside0.mk hbox; have n0_ := Aside0.mk (below_step HB.out hb); clear HB; have HB := n0_; clear n0_ hbox hb hg)
      | ((with_reducible refine gate_store (t := 28) (p := 5) rfl ?_); refine faultplan_Plan.st (w0 := w) (cs := #[.int .i64 p1, .int .i64 p2, .int .i64 p3, .int .i64 p4, .int .i64 p5]) 28 rfl rfl rfl rfl rfl BQ.out (by kernel_rfl) rfl (by simp [Value.oneCell']) HB.out GBQ.out ?_; intro w7 hz hb hk; clear BQ HB; have BQ := Aside0.mk hz; have HB := Aside0.mk hb; have m0_ := Aside0.mk (hk _ _ NEBKBQ.out BK.out); have m1_ := Aside0.mk (hk _ _ NEB2BQ.out B2.out); clear BK B2; have BK := m0_; have B2 := m1_; clear m0_ m1_; clear hz hb hk; have hq0 : w7.cell? ⟨gp, 0, none⟩ = some (.int .i64 p1) := (blk_cell BQ.out 0).trans rfl; have hq2 : w7.cell? ⟨gp, 2, none⟩ = some (.int .i64 p3) := (blk_cell BQ.out 2).trans rfl)
      | ((with_reducible refine gate_store (t := 23) (p := 2) rfl ?_); refine faultplan_Plan.st (w0 := w) (cs := #[.bool false, .bool false, .int .i64 0, .bool false, .bool false, .bool false, .bool false, .int .i64 0, .bool false, .bool false, .bool false, .bool false, .bool false, .bool false, .bool false, .bool false, .int .i64 0]) 23 rfl rfl rfl rfl rfl B2.out (by kernel_rfl) rfl (by simp [Value.oneCell']) HB.out GB2.out ?_; intro wz hz hb hk; clear B2 HB; have B2 := Aside0.mk hz; have HB := Aside0.mk hb; clear hz hb hk))
    refine bodyPost_ret (results_ctt rfl _ _ g2 23 #[.bool false, .bool false, .int .i64 0, .bool false, .bool false, .bool false, .bool false, .int .i64 0, .bool false, .bool false, .bool false, .bool false, .bool false, .bool false, .bool false, .bool false, .int .i64 0] (0, 0) _ rfl B2.out hu23 rfl (by kernel_rfl)) rfl ?_
    exact ⟨rfl, HB.out⟩

end Go.Proofs.Ytfobedaepflidaa.F

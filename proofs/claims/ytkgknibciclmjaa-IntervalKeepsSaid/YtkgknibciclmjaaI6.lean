-- Written by a program of this session (own_print.py) that runs the kit's printer. Lean checks it.
import Derived.Test.YtkgknibciclmjaaI0
import Derived.Test.YtkgknibciclmjaaI4
namespace Go.Proofs.Ytkgknibciclmjaa.I
open Go.RowKit Go.Proofs.YtkgknibciclmjaaW.PrintWords Go.Proofs.YtkgknibciclmjaaW.PrintLast Go.Proofs.YtkgknibciclmjaaW.PrintMore
attribute [local go_sem] max2_int min2_int max_two min_two max_three min_three max_four min_four   -- for this text's walks alone
set_option linter.unusedVariables false
set_option linter.unusedSimpArgs false

/-! ### interval_Contains: function 15 -/
def interval_Contains.srch (p : Int → Bool) : Nat → Int → Int → Option Int
  | 0, _, _ => none
  | k + 1, i, j => if i < j then (if p ((i + j) / 2) = true then interval_Contains.srch p k i ((i + j) / 2) else interval_Contains.srch p k ((i + j) / 2 + 1) j) else some i
def interval_Contains.f (k : Nat) (l0 : List S28) (a1 : Int) : Option Bool := (interval_Check.f k l0).bind fun t => if t = 0 then (if (l0.length : Int) ≤ 4611686018427387903 then ((interval_Contains.srch (fun i => decide ((rd_T28 l0 i).f1 > a1)) k 0 (l0.length : Int)).bind fun j => if j < (l0.length : Int) then (if 0 ≤ j then some (decide ((rd_T28 l0 j).f0 ≤ a1)) else none) else some false) else none) else some false
theorem interval_Contains.srch_mono (p : Int → Bool) : ∀ k i j, LeO (interval_Contains.srch p k i j) (interval_Contains.srch p (k + 1) i j)
  | 0, _, _ => fun r h => by simp [interval_Contains.srch] at h
  | k + 1, i, j => by
    have ih := interval_Contains.srch_mono p k
    unfold interval_Contains.srch
    exact LeO.ite (LeO.ite (ih _ _) (ih _ _)) (LeO.refl _)
theorem interval_Contains.mono : ∀ a0 a1 k, LeO (interval_Contains.f k a0 a1) (interval_Contains.f (k + 1) a0 a1) := by
  intro a0 a1 k
  unfold interval_Contains.f
  exact LeO.bind (interval_Check.mono _ _) (fun _ => LeO.ite (LeO.ite (LeO.bind (interval_Contains.srch_mono _ _ _ _) (fun _ => LeO.refl _)) (LeO.refl _)) (LeO.refl _))
set_option maxHeartbeats 4000000 in
set_option maxRecDepth 100000 in
theorem interval_Contains.search (p : Int → Bool) (n : Int) (gs gn : Nat) (k : Nat) (r : Int) (w : World) (h0 : 0 ≤ n) (hn : n ≤ 4611686018427387903)
    (hf : ∀ (i : Int) (W : World), 0 ≤ i → i < n → Below w.heap.size w W → Calls Try.prog 38 #[.int .i64 i, .pointer (some ⟨gs, 0, none⟩), .pointer (some ⟨gn, 0, none⟩)] W fun e w' => e = .returned (.bool (p i)) ∧ Below W.heap.size W w')
    (h : interval_Contains.srch p k 0 n = some r) :
    Calls Try.prog 37 #[.int .i64 n, .func (.func 38) #[] #[.pointer (some ⟨gs, 0, none⟩), .pointer (some ⟨gn, 0, none⟩)]] w fun e w' => e = .returned (.int .i64 r) ∧ Below w.heap.size w w' := by
  have HF := Aside0.mk hf
  have H0 := Aside0.mk h
  clear hf h
  go_enter Try.func37, Try.ntmps37
  go_wp2
  go_loopg [5, 6] k (fun kx s5 s6 wr => ∃ (i j : Int), s5 = .int .i64 i ∧ s6 = .int .i64 j ∧ 0 ≤ i ∧ i ≤ j ∧ j ≤ n ∧ Aside0 (interval_Contains.srch p kx i j = some r) ∧ Aside0 (Below w.heap.size w wr))
  case atStart => exact ⟨0, n, rfl, rfl, Int.le_refl _, h0, Int.le_refl _, H0, ⟨Below.refl _ _⟩⟩
  case round =>
    obtain ⟨i, j, rfl, rfl, hi, hij, hj, HR, HB⟩ := hrel
    cases gk with
    | zero => exact absurd HR.out (by simp [interval_Contains.srch])
    | succ kx =>
      have H := HR.out
      clear HR
      simp only [interval_Contains.srch] at H
      by_cases hlt : i < j
      · rw [if_pos hlt] at H
        by_cases hp : p ((i + j) / 2) = true
        · rw [if_pos hp] at H
          have H' := Aside0.mk H
          have HP := Aside0.mk hp
          clear H hp
          go_wp2_with (go_at_call 38; refine (HF.out ((i + j) / 2) _ (by omega) (by omega) HB.out).mono ?_; rintro e w' ⟨rfl, hb⟩; rw [HP.out])
          go_roundg kx
          case measure => omega
          case rel => exact ⟨i, (i + j) / 2, rfl, rfl, hi, by omega, by omega, H', ⟨below_step HB.out hb⟩⟩
        · rw [if_neg hp] at H
          have H' := Aside0.mk H
          have HP : Aside0 (p ((i + j) / 2) = false) := ⟨by simpa using hp⟩
          clear H hp
          go_wp2_with (go_at_call 38; refine (HF.out ((i + j) / 2) _ (by omega) (by omega) HB.out).mono ?_; rintro e w' ⟨rfl, hb⟩; rw [HP.out])
          go_roundg kx
          case measure => omega
          case rel => exact ⟨(i + j) / 2 + 1, j, rfl, rfl, by omega, by omega, hj, H', ⟨below_step HB.out hb⟩⟩
      · rw [if_neg hlt] at H
        obtain rfl := Option.some.inj H
        go_wp2
        go_ret
        exact ⟨rfl, HB.out⟩
set_option maxHeartbeats 4000000 in
set_option maxRecDepth 100000 in
theorem interval_Contains.closure (gs gn : Nat) (A0 : Option Addr) (c0 : Nat) (l0 : List S28) (a1 i : Int) (W : World) (hi0 : 0 ≤ i) (hi1 : i < (l0.length : Int))
    (hs : W.cell? ⟨gs, 0, none⟩ = some (.slice A0 l0.length c0)) (hn : W.cell? ⟨gn, 0, none⟩ = some (.int .i64 a1)) (hr : Kd.C k28 W A0 l0.length l0) :
    Calls Try.prog 38 #[.int .i64 i, .pointer (some ⟨gs, 0, none⟩), .pointer (some ⟨gn, 0, none⟩)] W fun e w' => e = .returned (.bool (decide ((rd_T28 l0 i).f1 > a1))) ∧ Below W.heap.size W w' := by
  have hu28 := Try.underlying28
  obtain ⟨ad, rfl, hx0, hx1⟩ := at_T28 hr i hi0 hi1
  clear hr
  replace hi0 := eq_true hi0
  replace hi1 := eq_true hi1
  generalize (rd_T28 l0 i).f1 = y at hx1 ⊢
  generalize (rd_T28 l0 i).f0 = z at hx0
  go_enter Try.func38, Try.ntmps38
  go_wp2
  go_quiet (fail)
  go_wp2
  go_ret
  exact ⟨rfl, by repeat (first | (with_reducible first | exact Below.refl _ _ | apply below_alloc | apply pw_below_drewN | apply below_drew1) | exact Below.refl _ _)⟩
set_option maxHeartbeats 4000000 in
set_option maxRecDepth 100000 in
theorem interval_Contains.calls (k : Nat) (A0 : Option Addr) (c0 : Nat) (l0 : List (S28)) (a1 : Int) (r : Bool) (w : World) (hr0 : Kd.C k28 w A0 l0.length l0) (hc0 : l0.length ≤ c0) (h : interval_Contains.f k l0 a1 = some r) :
    Calls Try.prog 15 #[.slice A0 l0.length c0, .int .i64 a1] w fun e w' => e = .returned (.bool r) ∧ Below w.heap.size w w' := by
  have hu28 := Try.underlying28
  have HR0 := Aside0.mk hr0
  have HC0 := Aside0.mk hc0
  clear hr0 hc0
  have HB := Aside0.mk (Below.refl w.heap.size w)
  obtain ⟨t, h1, h⟩ := Option.bind_eq_some_iff.mp h
  have A1 := Aside0.mk h1
  have H := h
  clear h h1
  go_enter Try.func15, Try.ntmps15
  by_cases ht : t = 0
  · subst ht
    rw [if_pos rfl] at H
    by_cases hl : (l0.length : Int) ≤ 4611686018427387903
    case neg => rw [if_neg hl] at H; cases H
    rw [if_pos hl] at H
    have HL := Aside0.mk hl
    obtain ⟨j, h2, h3⟩ := Option.bind_eq_some_iff.mp H
    have A2 := Aside0.mk h2
    have H := h3
    clear h2 h3 hl
    by_cases hj : j < (l0.length : Int)
    · rw [if_pos hj] at H
      have hj1 : decide (j < (l0.length : Int)) = true := decide_eq_true hj
      by_cases hj0 : 0 ≤ j
      case neg => rw [if_neg hj0] at H; cases H
      rw [if_pos hj0] at H
      obtain rfl := Option.some.inj H
      obtain ⟨ad, rfl, hx0, hx1⟩ := at_T28 HR0.out j hj0 hj
      replace hj0 := eq_true hj0
      replace hj := eq_true hj
      clear H hx1
      have HX := Aside0.mk hx0
      clear hx0
      generalize hz : (rd_T28 l0 j).f0 = z at HX ⊢
      clear hz
      go_wp2_with (first
        | ((with_reducible refine gate_dst (N := 2) rfl ?_); refine box_event ?hg (N := 2) ?hd (cs := #[.slice (some ad) l0.length c0]) (t := 22) ?hr ?_; (case hd => rfl); (case hg => rfl); (case hr => first | (go_simp; done) | (go_simp; rfl)); intro gs hgs w2 hbs hb; have n0_ := Aside0.mk (below_step HB.out hb); have BS := Aside0.mk hbs; clear HB hb hbs hgs; have HB := n0_; clear n0_; have hs0 : w2.cell? ⟨gs, 0, none⟩ = some (.slice (some ad) l0.length c0) := (blk_cell BS.out 0).trans rfl)
        | ((with_reducible refine gate_dst (N := 3) rfl ?_); refine box_event ?hg (N := 3) ?hd (cs := #[.int .i64 a1]) (t := 3) ?hr ?_; (case hd => rfl); (case hg => rfl); (case hr => first | (go_simp; done) | (go_simp; rfl)); intro gn hgn w3 hbn hb; have n0_ := Aside0.mk (below_step HB.out hb); have n1_ := Aside0.mk (blk_below BS.out hb); have BN := Aside0.mk hbn; clear HB BS hb hbn hs0 hgn; have HB := n0_; have BS := n1_; clear n0_ n1_; have hs0 : w3.cell? ⟨gs, 0, none⟩ = some (.slice (some ad) l0.length c0) := (blk_cell BS.out 0).trans rfl)
        | (go_at_call 13; (with_reducible refine (interval_Check.calls k (some ad) c0 l0 0 _ (Kd.C_below HR0.out HB.out) HC0.out A1.out).mono ?_); rintro e w4 ⟨rfl, hb⟩; have n0_ := Aside0.mk (below_step HB.out hb); have n1_ := Aside0.mk (blk_below BS.out hb); have n2_ := Aside0.mk (blk_below BN.out hb); clear HB hb BS BN hs0; have HB := n0_; have BS := n1_; have BN := n2_; clear n0_ n1_ n2_; have hs0 : w4.cell? ⟨gs, 0, none⟩ = some (.slice (some ad) l0.length c0) := (blk_cell BS.out 0).trans rfl)
        | (go_at_call 37; (with_reducible refine (interval_Contains.search (fun i => decide ((rd_T28 l0 i).f1 > a1)) (l0.length : Int) gs gn k j _ (by omega) HL.out (fun i W h0 h1 hW => interval_Contains.closure gs gn (some ad) c0 l0 a1 i W h0 h1 ((blk_cell (blk_below BS.out hW) 0).trans rfl) ((blk_cell (blk_below BN.out hW) 0).trans rfl) (Kd.C_below HR0.out (below_step HB.out hW))) A2.out).mono ?_); rintro e w5 ⟨rfl, hb⟩; have n0_ := Aside0.mk (below_step HB.out hb); have n1_ := Aside0.mk (blk_below BS.out hb); have n2_ := Aside0.mk (blk_below BN.out hb); clear HB hb BS BN hs0; have HB := n0_; have BS := n1_; have BN := n2_; clear n0_ n1_ n2_; have hs0 : w5.cell? ⟨gs, 0, none⟩ = some (.slice (some ad) l0.length c0) := (blk_cell BS.out 0).trans rfl; have hn0 : w5.cell? ⟨gn, 0, none⟩ = some (.int .i64 a1) := (blk_cell BN.out 0).trans rfl; have hx0 := (HB.out.cell (World.block_lt_of_cell? w _ HX.out)).trans HX.out))
      go_quiet (fail)
      go_wp2
      go_ret
      exact ⟨rfl, by repeat (first | (with_reducible first | exact HB.out | apply below_alloc | apply pw_below_drewN | apply below_drew1) | exact HB.out)⟩
    · rw [if_neg hj] at H
      have hj1 : decide (j < (l0.length : Int)) = false := decide_eq_false hj
      obtain rfl := Option.some.inj H
      clear H hj
      go_wp2_with (first
        | ((with_reducible refine gate_dst (N := 2) rfl ?_); refine box_event ?hg (N := 2) ?hd (cs := #[.slice A0 l0.length c0]) (t := 22) ?hr ?_; (case hd => rfl); (case hg => rfl); (case hr => first | (go_simp; done) | (go_simp; rfl)); intro gs hgs w2 hbs hb; have n0_ := Aside0.mk (below_step HB.out hb); have BS := Aside0.mk hbs; clear HB hb hbs hgs; have HB := n0_; clear n0_; have hs0 : w2.cell? ⟨gs, 0, none⟩ = some (.slice A0 l0.length c0) := (blk_cell BS.out 0).trans rfl)
        | ((with_reducible refine gate_dst (N := 3) rfl ?_); refine box_event ?hg (N := 3) ?hd (cs := #[.int .i64 a1]) (t := 3) ?hr ?_; (case hd => rfl); (case hg => rfl); (case hr => first | (go_simp; done) | (go_simp; rfl)); intro gn hgn w3 hbn hb; have n0_ := Aside0.mk (below_step HB.out hb); have n1_ := Aside0.mk (blk_below BS.out hb); have BN := Aside0.mk hbn; clear HB BS hb hbn hs0 hgn; have HB := n0_; have BS := n1_; clear n0_ n1_; have hs0 : w3.cell? ⟨gs, 0, none⟩ = some (.slice A0 l0.length c0) := (blk_cell BS.out 0).trans rfl)
        | (go_at_call 13; (with_reducible refine (interval_Check.calls k A0 c0 l0 0 _ (Kd.C_below HR0.out HB.out) HC0.out A1.out).mono ?_); rintro e w4 ⟨rfl, hb⟩; have n0_ := Aside0.mk (below_step HB.out hb); have n1_ := Aside0.mk (blk_below BS.out hb); have n2_ := Aside0.mk (blk_below BN.out hb); clear HB hb BS BN hs0; have HB := n0_; have BS := n1_; have BN := n2_; clear n0_ n1_ n2_; have hs0 : w4.cell? ⟨gs, 0, none⟩ = some (.slice A0 l0.length c0) := (blk_cell BS.out 0).trans rfl)
        | (go_at_call 37; (with_reducible refine (interval_Contains.search (fun i => decide ((rd_T28 l0 i).f1 > a1)) (l0.length : Int) gs gn k j _ (by omega) HL.out (fun i W h0 h1 hW => interval_Contains.closure gs gn A0 c0 l0 a1 i W h0 h1 ((blk_cell (blk_below BS.out hW) 0).trans rfl) ((blk_cell (blk_below BN.out hW) 0).trans rfl) (Kd.C_below HR0.out (below_step HB.out hW))) A2.out).mono ?_); rintro e w5 ⟨rfl, hb⟩; have n0_ := Aside0.mk (below_step HB.out hb); have n1_ := Aside0.mk (blk_below BS.out hb); have n2_ := Aside0.mk (blk_below BN.out hb); clear HB hb BS BN hs0; have HB := n0_; have BS := n1_; have BN := n2_; clear n0_ n1_ n2_; have hs0 : w5.cell? ⟨gs, 0, none⟩ = some (.slice A0 l0.length c0) := (blk_cell BS.out 0).trans rfl; have hn0 : w5.cell? ⟨gn, 0, none⟩ = some (.int .i64 a1) := (blk_cell BN.out 0).trans rfl))
      go_quiet (fail)
      go_wp2
      go_ret
      exact ⟨rfl, by repeat (first | (with_reducible first | exact HB.out | apply below_alloc | apply pw_below_drewN | apply below_drew1) | exact HB.out)⟩
  · rw [if_neg ht] at H
    obtain rfl := Option.some.inj H
    have ht1 : (t != 0) = true := bne_iff_ne.mpr ht
    clear ht H
    go_wp2_with (first
      | ((with_reducible refine gate_dst (N := 2) rfl ?_); refine box_event ?hg (N := 2) ?hd (cs := #[.slice A0 l0.length c0]) (t := 22) ?hr ?_; (case hd => rfl); (case hg => rfl); (case hr => first | (go_simp; done) | (go_simp; rfl)); intro gs hgs w2 hbs hb; have n0_ := Aside0.mk (below_step HB.out hb); have BS := Aside0.mk hbs; clear HB hb hbs hgs; have HB := n0_; clear n0_; have hs0 : w2.cell? ⟨gs, 0, none⟩ = some (.slice A0 l0.length c0) := (blk_cell BS.out 0).trans rfl)
      | ((with_reducible refine gate_dst (N := 3) rfl ?_); refine box_event ?hg (N := 3) ?hd (cs := #[.int .i64 a1]) (t := 3) ?hr ?_; (case hd => rfl); (case hg => rfl); (case hr => first | (go_simp; done) | (go_simp; rfl)); intro gn hgn w3 hbn hb; have n0_ := Aside0.mk (below_step HB.out hb); have n1_ := Aside0.mk (blk_below BS.out hb); have BN := Aside0.mk hbn; clear HB BS hb hbn hs0 hgn; have HB := n0_; have BS := n1_; clear n0_ n1_; have hs0 : w3.cell? ⟨gs, 0, none⟩ = some (.slice A0 l0.length c0) := (blk_cell BS.out 0).trans rfl)
      | (go_at_call 13; (with_reducible refine (interval_Check.calls k A0 c0 l0 t _ (Kd.C_below HR0.out HB.out) HC0.out A1.out).mono ?_); rintro e w4 ⟨rfl, hb⟩; have n0_ := Aside0.mk (below_step HB.out hb); clear HB hb; have HB := n0_; clear n0_))
    go_ret
    exact ⟨rfl, HB.out⟩

end Go.Proofs.Ytkgknibciclmjaa.I

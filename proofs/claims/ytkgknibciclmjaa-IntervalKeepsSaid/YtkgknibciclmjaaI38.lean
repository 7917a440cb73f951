-- Written by a program of this session (own_print.py) that runs the kit's printer. Lean checks it.
import Derived.Test.YtkgknibciclmjaaI0
import Derived.Test.YtkgknibciclmjaaI7
namespace Go.Proofs.Ytkgknibciclmjaa.I
open Go.RowKit Go.Proofs.YtkgknibciclmjaaW.PrintWords Go.Proofs.YtkgknibciclmjaaW.PrintLast Go.Proofs.YtkgknibciclmjaaW.PrintMore
attribute [local go_sem] max2_int min2_int max_two min_two max_three min_three max_four min_four   -- for this text's walks alone
set_option linter.unusedVariables false
set_option linter.unusedSimpArgs false

/-! ### interval_Intersect: function 29 -/
/-- A row that is read lies in a block of those that stay. -/
theorem V_block {α : Type} {d : Kd α} {e base n c : Nat} {ok : Nat → Prop} {W : World} {ad : Addr} {xs : List α} (h : Kd.V d e W base ok (.slice (some ad) n c) xs) (hn : 0 < n) (hs : 0 < d.sz) : ok ad.block := by
  by_cases hno : ok ad.block
  · exact hno
  · exfalso
    have hC := Kd.V_F h { W with heap := W.heap.setIfInBounds ad.block (.cells #[] 0 (0, 0)) } (fun k hk _ => by
      show (W.heap.setIfInBounds ad.block _)[k]? = W.heap[k]?
      rw [Array.getElem?_setIfInBounds, if_neg (fun e => hno (by rw [e]; exact hk))])
    obtain ⟨ad', he, hcell⟩ := hC.2.2 hn
    obtain ⟨c', hcl, _, hu⟩ := hcell 0 _ (List.getElem?_eq_getElem (by have := hC.1; omega))
    have h0 := hu 0 _ (List.getElem?_eq_getElem (by omega))
    cases he
    by_cases hb : ad.block < W.heap.size
    · simp [World.cell?, Addr.add, hb] at h0
    · simp [World.cell?, Addr.add, hb] at h0
mutual
def interval_Intersect.l0 : Nat → List (S28) → List (S28) → List (S28) → Option ((List (S28)) × Int)
  | 0, _, _, _ => none
  | k + 1, x0, x1, x7 => if (x0.length : Int) > 0 then (interval_Intersect.j1 k x0 x1 x7 (decide ((x1.length : Int) > 0))) else (interval_Intersect.j1 k x0 x1 x7 false)
def interval_Intersect.j1 : Nat → List (S28) → List (S28) → List (S28) → Bool → Option ((List (S28)) × Int)
  | 0, _, _, _, _ => none
  | k + 1, x0, x1, x7, x22 => if x22 = true then (if 0 < (x0.length : Int) then (if 0 < (x1.length : Int) then (if (mx ((rd_T28 x0 0).f0) ((rd_T28 x1 0).f0)) < (mn ((rd_T28 x0 0).f1) ((rd_T28 x1 0).f1)) then (if x7.length < 8796093022208 then ((some (x7 ++ [(⟨mx ((rd_T28 x0 0).f0) ((rd_T28 x1 0).f0), mn ((rd_T28 x0 0).f1) ((rd_T28 x1 0).f1)⟩ : S28)] : List (S28))).bind fun y445 => (if ((rd_T28 x0 0).f1) ≤ ((rd_T28 x1 0).f1) then (if 1 ≤ (x0.length : Int) then (interval_Intersect.l0 k (x0.drop 1) x1 y445) else (none)) else (if 1 ≤ (x1.length : Int) then (interval_Intersect.l0 k x0 (x1.drop 1) y445) else (none)))) else (none)) else (if ((rd_T28 x0 0).f1) ≤ ((rd_T28 x1 0).f1) then (if 1 ≤ (x0.length : Int) then (interval_Intersect.l0 k (x0.drop 1) x1 x7) else (none)) else (if 1 ≤ (x1.length : Int) then (interval_Intersect.l0 k x0 (x1.drop 1) x7) else (none)))) else (none)) else (none)) else (some (x7, 0))
end
def interval_Intersect.f (k : Nat) (l0 : List (S28)) (l1 : List (S28)) : Option ((List (S28)) × Int) := (interval_both.f k l0 l1).bind fun t439 => (if t439 = 0 then (interval_Intersect.l0 k l0 l1 ([] : List (S28))) else (some (([] : List (S28)), t439)))
theorem interval_Intersect.mono_l : ∀ k, (∀ y0 y1 y2, LeO (interval_Intersect.l0 k y0 y1 y2) (interval_Intersect.l0 (k + 1) y0 y1 y2)) ∧ (∀ y0 y1 y2 y3, LeO (interval_Intersect.j1 k y0 y1 y2 y3) (interval_Intersect.j1 (k + 1) y0 y1 y2 y3))
  | 0 => ⟨fun _ _ _ r h => by simp [interval_Intersect.l0] at h, fun _ _ _ _ r h => by simp [interval_Intersect.j1] at h⟩
  | k + 1 => by
    obtain ⟨ih0, ih1⟩ := interval_Intersect.mono_l k
    refine ⟨?_, ?_⟩
    · intro y0 y1 y2
      unfold interval_Intersect.l0
      repeat' first
      | (with_reducible exact ih0 _ _ _)
      | (with_reducible exact ih1 _ _ _ _)
      | (with_reducible exact interval_both.mono _ _ _)
      | (with_reducible exact LeO.refl _)
      | (with_reducible exact LeO.none _)
      | (with_reducible refine LeO.ite ?_ ?_)
      | (with_reducible refine LeO.bind ?_ (fun _ => ?_))
      | exact ih0 _ _ _
      | exact ih1 _ _ _ _
      | exact interval_both.mono _ _ _
      | exact LeO.none _
      | refine LeO.ite ?_ ?_
      | refine LeO.bind ?_ (fun _ => ?_)
    · intro y0 y1 y2 y3
      unfold interval_Intersect.j1
      repeat' first
      | (with_reducible exact ih0 _ _ _)
      | (with_reducible exact ih1 _ _ _ _)
      | (with_reducible exact interval_both.mono _ _ _)
      | (with_reducible exact LeO.refl _)
      | (with_reducible exact LeO.none _)
      | (with_reducible refine LeO.ite ?_ ?_)
      | (with_reducible refine LeO.bind ?_ (fun _ => ?_))
      | exact ih0 _ _ _
      | exact ih1 _ _ _ _
      | exact interval_both.mono _ _ _
      | exact LeO.none _
      | refine LeO.ite ?_ ?_
      | refine LeO.bind ?_ (fun _ => ?_)
theorem interval_Intersect.mono : ∀ a0 a1 k, LeO (interval_Intersect.f k a0 a1) (interval_Intersect.f (k + 1) a0 a1) := by
  intro a0 a1 k
  obtain ⟨ih0, ih1⟩ := interval_Intersect.mono_l k
  unfold interval_Intersect.f
  repeat' first
      | (with_reducible exact ih0 _ _ _)
      | (with_reducible exact ih1 _ _ _ _)
      | (with_reducible exact interval_both.mono _ _ _)
      | (with_reducible exact LeO.refl _)
      | (with_reducible exact LeO.none _)
      | (with_reducible refine LeO.ite ?_ ?_)
      | (with_reducible refine LeO.bind ?_ (fun _ => ?_))
      | exact ih0 _ _ _
      | exact ih1 _ _ _ _
      | exact interval_both.mono _ _ _
      | exact LeO.none _
      | refine LeO.ite ?_ ?_
      | refine LeO.bind ?_ (fun _ => ?_)
def interval_Intersect.T6 : Bool × List (List Nat × List Nat) := (true, [([], []), ([0], [0]), ([1], [1]), ([2], [2]), ([], []), ([4], [4]), ([5], [5]), ([6], [6]), ([3, 7], [3, 7]), ([], []), ([9], [9]), ([10], [10]), ([11], [11]), ([], []), ([13], [13]), ([14], [14]), ([15], [15]), ([12, 16], [12, 16]), ([8, 17], [8, 17]), ([], []), ([19, 18, 0, 1, 2, 3, 4, 5, 6, 7, 8, 9, 10, 11, 12, 13, 14, 15, 16, 17, 18, 19], [18, 19])])
def interval_Intersect.B6 : List Nat := [0, 1, 3, 7, 0, 16, 48, 112, 255, 0, 512, 1536, 3584, 0, 8192, 24576, 57344, 130560, 262143, 0, 1048575]
theorem interval_Intersect.tab6 : rtab .any (opsOf Try.f29 6) = interval_Intersect.T6 := by kernel_rfl
theorem interval_Intersect.bits6 : waitsOk interval_Intersect.T6.2 interval_Intersect.B6 = true := by kernel_rfl
def interval_Intersect.T9 : Bool × List (List Nat × List Nat) := (true, [([], []), ([0], [0]), ([1], [1]), ([2], [2]), ([], []), ([4], [4]), ([5], [5]), ([6], [6]), ([3, 7], [3, 7])])
def interval_Intersect.B9 : List Nat := [0, 1, 3, 7, 0, 16, 48, 112, 255]
theorem interval_Intersect.tab9 : rtab .any (opsOf Try.f29 9) = interval_Intersect.T9 := by kernel_rfl
theorem interval_Intersect.bits9 : waitsOk interval_Intersect.T9.2 interval_Intersect.B9 = true := by kernel_rfl
set_option maxHeartbeats 8000000 in
set_option maxRecDepth 100000 in
theorem interval_Intersect.calls (k : Nat) (P0_ : Nat → Prop) (A0 : Option Addr) (c0 : Nat) (l0 : List (S28)) (P1_ : Nat → Prop) (A1 : Option Addr) (c1 : Nat) (l1 : List (S28)) (r1 : List (S28)) (r2 : Int) (w : World) (hs0 : Kd.V k28 28 w w.heap.size (fun k_ => P0_ k_) (.slice A0 l0.length c0) l0) (hs1 : Kd.V k28 28 w w.heap.size (fun k_ => P1_ k_) (.slice A1 l1.length c1) l1) (h : interval_Intersect.f k l0 l1 = some (r1, r2)) :
    Calls Try.prog 29 #[.slice A0 l0.length c0, .slice A1 l1.length c1] w fun e w' => ∃ v0_ : Value, e = .returned (.tuple #[v0_, .int .i64 r2]) ∧ Kd.R k28 28 w' w.heap.size (fun k_ => (w.heap.size ≤ k_)) v0_ r1 ∧ Below w.heap.size w w' := by
  have hu28 := Try.underlying28
  have HO0 := Aside0.mk (show Kd.V k28 28 w w.heap.size (fun k_ => ((P0_ k_ ∨ P1_ k_) ∨ w.heap.size ≤ k_)) (.slice A0 l0.length c0) l0 from Kd.V_mono hs0 (fun k_ hk => .inl (.inl hk)))
  have HO1 := Aside0.mk (show Kd.V k28 28 w w.heap.size (fun k_ => ((P0_ k_ ∨ P1_ k_) ∨ w.heap.size ≤ k_)) (.slice A1 l1.length c1) l1 from Kd.V_mono hs1 (fun k_ hk => .inl (.inr hk)))
  have HB := Aside0.mk (Below.refl w.heap.size w)
  have H : ((interval_both.f k l0 l1).bind fun t439 => (if t439 = 0 then (interval_Intersect.l0 k l0 l1 ([] : List (S28))) else (some (([] : List (S28)), t439)))) = some (r1, r2) := h
  clear h
  replace H := Option.bind_eq_some_iff.mp H
  obtain ⟨t439, A30, H⟩ := H
  replace H : (if t439 = 0 then (interval_Intersect.l0 k l0 l1 ([] : List (S28))) else (some (([] : List (S28)), t439))) = some (r1, r2) := H
  have A3 := Aside0.mk A30
  clear A30
  by_cases c4 : t439 = 0
  · rw [if_pos c4] at H
    have c4b0 : (t439 == 0) = true := beq_iff_eq.mpr c4
    have c4b1 : (t439 != 0) = false := bne_eq_false_iff_eq.mpr c4
    clear c4
    have H' := Aside0.mk H
    clear H
    go_enter Try.func29, Try.ntmps29
    go_wp2_with (first | ((with_reducible refine gate_callee (f := 45) rfl ?_); refine goesL_ (some 11) rfl rfl Try.func45 (by kernel_rfl) rfl #[.slice A0 l0.length c0, .slice A1 l1.length c1] rfl (by (try simp only [List.map_toArray, List.map_cons, List.map_nil]); first | done | rfl | (simp only [List.length_drop, List.length_take]; rfl)) ?_; (with_reducible refine (interval_both.calls k _ _ l0 _ _ l1 t439 _ ?side1 ?side2 ?side3 ?side4 A3.out).mono ?_); (case side1 => repeat (first | exact (Kd.V_reads' HO0.out).2.2 | (with_reducible refine Kd.C_alloc ?_ _) | (with_reducible refine Kd.C_drewN ?_ _) | (with_reducible refine Kd.C_drew ?_))); (case side2 => exact (Kd.V_reads' HO0.out).2.1); (case side3 => repeat (first | exact (Kd.V_reads' HO1.out).2.2 | (with_reducible refine Kd.C_alloc ?_ _) | (with_reducible refine Kd.C_drewN ?_ _) | (with_reducible refine Kd.C_drew ?_))); (case side4 => exact (Kd.V_reads' HO1.out).2.1); rintro e w5 ⟨rfl, hb⟩; refine ⟨_, rfl, ?_⟩; have n0_ := Aside0.mk (Kd.V_below (by (with_reducible repeat (first | apply Kd.V_alloc | apply Kd.V_drewN | apply Kd.V_drew)); exact HO0.out) hb); have n1_ := Aside0.mk (Kd.V_below (by (with_reducible repeat (first | apply Kd.V_alloc | apply Kd.V_drewN | apply Kd.V_drew)); exact HO1.out) hb); have n2_ := Aside0.mk (below_step (by repeat (first | (with_reducible first | exact HB.out | apply below_alloc | apply pw_below_drewN | apply below_drew1) | exact HB.out)) hb); clear HO0; clear HO1; clear HB; have HO0 := n0_; have HO1 := n1_; have HB := n2_; clear n0_ n1_ n2_; (try clear hb); (try clear hb2); (try clear hk); (try clear hi)))
    go_loopg [0, 1, 7] k (fun kq v0 v1 v7 w' => ∃ (x0_1 : List (S28)) (x1_1 : List (S28)) (x7_1 : List (S28)), Aside0 (interval_Intersect.l0 kq x0_1 x1_1 x7_1 = some (r1, r2)) ∧ Aside0 (kq ≤ k) ∧ Aside0 (Kd.V k28 28 w' w.heap.size (fun k_ => ((P0_ k_ ∨ P1_ k_) ∨ w.heap.size ≤ k_) ∧ some k_ ≠ (v7 : Value).ownBlock) v0 x0_1) ∧ Aside0 (Kd.V k28 28 w' w.heap.size (fun k_ => ((P0_ k_ ∨ P1_ k_) ∨ w.heap.size ≤ k_) ∧ some k_ ≠ (v7 : Value).ownBlock) v1 x1_1) ∧ Aside0 (Kd.R k28 28 w' w.heap.size (fun k_ => (w.heap.size ≤ k_)) v7 x7_1) ∧ Aside0 (Below w.heap.size w w'))
    case atStart => exact ⟨(l0), (l1), (([] : List (S28))), H', ⟨Nat.le_refl _⟩, ⟨by (with_reducible repeat (first | apply Kd.V_alloc | apply Kd.V_drewN | apply Kd.V_drew)); exact Kd.V_mono HO0.out (fun _ hk => ⟨hk, (by simp [Value.ownBlock])⟩)⟩, ⟨by (with_reducible repeat (first | apply Kd.V_alloc | apply Kd.V_drewN | apply Kd.V_drew)); exact Kd.V_mono HO1.out (fun _ hk => ⟨hk, (by simp [Value.ownBlock])⟩)⟩, ⟨by first | exact Kd.R_nil _ _ _ _ _ | exact Kd.N_nil _ _ _ _ _ | exact Kd.V_nil _ _ _ _ _ | exact Kd.Q_nil _ _ _ _ _ | exact Kd.S_nil _ _ _ _ _⟩, ⟨by repeat (first | (with_reducible first | exact HB.out | apply below_alloc | apply pw_below_drewN | apply below_drew1) | exact HB.out)⟩⟩
    case round =>
      clear H'
      try clear c1
      try clear c2
      try clear p2
      try clear c4
      try clear c4b0
      try clear c4b1
      obtain ⟨x0_1, x1_1, x7_1, HA, HK1, HO_0, HO_1, HO_7, HB⟩ := hrel
      cases gk with
      | zero => exact absurd HA.out (by simp [interval_Intersect.l0])
      | succ k1 =>
        have H := HA.out
        clear HA
        simp only [interval_Intersect.l0] at H
        have HC6 := Aside0.mk H
        clear H
        go_upto_region 5 with (fail)
        go_cut [22] (fun v22 wc => ∃ (kq : Nat) (x22_5 : Bool), v22 = .bool x22_5 ∧ Aside0 (interval_Intersect.j1 kq x0_1 x1_1 x7_1 x22_5 = some (r1, r2)) ∧ Aside0 (kq ≤ k1) ∧ Aside0 (Kd.V k28 28 wc w.heap.size (fun k_ => ((P0_ k_ ∨ P1_ k_) ∨ w.heap.size ≤ k_) ∧ some k_ ≠ (u7 : Value).ownBlock) u0 x0_1) ∧ Aside0 (Kd.V k28 28 wc w.heap.size (fun k_ => ((P0_ k_ ∨ P1_ k_) ∨ w.heap.size ≤ k_) ∧ some k_ ≠ (u7 : Value).ownBlock) u1 x1_1) ∧ Aside0 (Kd.R k28 28 wc w.heap.size (fun k_ => (w.heap.size ≤ k_)) u7 x7_1) ∧ Aside0 (Below w.heap.size w wc))
        case first =>
          have H := HC6.out
          clear HC6
          by_cases c7 : (x0_1.length : Int) > 0
          · rw [if_pos c7] at H
            have c7b0 : decide (0 < (x0_1.length : Int)) = true := decide_eq_true c7
            have c7b1 : decide (0 < x0_1.length) = true := decide_eq_true (by omega)
            clear c7
            (first | rw [c7b0] | (simp only [i64_w, i32_w]; rw [c7b0]) | skip)
            have H' := Aside0.mk H
            clear H
            obtain ⟨Ao8, co8, eo8⟩ := Kd.V_slice HO_0.out
            subst eo8
            obtain ⟨Ao9, co9, eo9⟩ := Kd.V_slice HO_1.out
            subst eo9
            go_wp2
            go_meet
            case rel => exact ⟨_, (decide ((x1_1.length : Int) > 0)), (by first | rfl | (simp; done) | (simp [*]; done)), H', ⟨by have := HK1.out; first | omega | exact Nat.le_refl _⟩, ⟨by (with_reducible repeat (first | apply Kd.V_alloc | apply Kd.V_drewN | apply Kd.V_drew)); exact HO_0.out⟩, ⟨by (with_reducible repeat (first | apply Kd.V_alloc | apply Kd.V_drewN | apply Kd.V_drew)); exact HO_1.out⟩, ⟨by (with_reducible repeat (first | apply Kd.R_alloc | apply Kd.R_drewN | apply Kd.R_drew)); exact HO_7.out⟩, ⟨by repeat (first | (with_reducible first | exact HB.out | apply below_alloc | apply pw_below_drewN | apply below_drew1) | exact HB.out)⟩⟩
          · rw [if_neg c7] at H
            have c7b0 : decide (0 < (x0_1.length : Int)) = false := decide_eq_false c7
            have c7b1 : decide (0 < x0_1.length) = false := decide_eq_false (by omega)
            clear c7
            (first | rw [c7b0] | (simp only [i64_w, i32_w]; rw [c7b0]) | skip)
            have H' := Aside0.mk H
            clear H
            obtain ⟨Ao10, co10, eo10⟩ := Kd.V_slice HO_0.out
            subst eo10
            go_wp2
            go_meet
            case rel => exact ⟨_, (false), (by first | rfl | (simp; done) | (simp [*]; done)), H', ⟨by have := HK1.out; first | omega | exact Nat.le_refl _⟩, ⟨by (with_reducible repeat (first | apply Kd.V_alloc | apply Kd.V_drewN | apply Kd.V_drew)); exact HO_0.out⟩, ⟨by (with_reducible repeat (first | apply Kd.V_alloc | apply Kd.V_drewN | apply Kd.V_drew)); exact HO_1.out⟩, ⟨by (with_reducible repeat (first | apply Kd.R_alloc | apply Kd.R_drewN | apply Kd.R_drew)); exact HO_7.out⟩, ⟨by repeat (first | (with_reducible first | exact HB.out | apply below_alloc | apply pw_below_drewN | apply below_drew1) | exact HB.out)⟩⟩
        case rest =>
          clear HC6
          try clear c1
          try clear c2
          try clear p2
          try clear c4
          try clear c4b0
          try clear c4b1
          try clear c7
          try clear c7b0
          try clear c7b1
          try clear p2
          obtain ⟨kq, x22_5, rfl, HA, HJ5, HO_0, HO_1, HO_7, HB⟩ := hcut
          cases kq with
          | zero => exact absurd HA.out (by simp [interval_Intersect.j1])
          | succ kj5 =>
            have H := HA.out
            clear HA
            simp only [interval_Intersect.j1] at H
            by_cases c11 : x22_5 = true
            · subst c11
              have H1 : (if 0 < (x0_1.length : Int) then (if 0 < (x1_1.length : Int) then (if (mx ((rd_T28 x0_1 0).f0) ((rd_T28 x1_1 0).f0)) < (mn ((rd_T28 x0_1 0).f1) ((rd_T28 x1_1 0).f1)) then (if x7_1.length < 8796093022208 then ((some (x7_1 ++ [(⟨mx ((rd_T28 x0_1 0).f0) ((rd_T28 x1_1 0).f0), mn ((rd_T28 x0_1 0).f1) ((rd_T28 x1_1 0).f1)⟩ : S28)] : List (S28))).bind fun y445 => (if ((rd_T28 x0_1 0).f1) ≤ ((rd_T28 x1_1 0).f1) then (if 1 ≤ (x0_1.length : Int) then (interval_Intersect.l0 kj5 (x0_1.drop 1) x1_1 y445) else (none)) else (if 1 ≤ (x1_1.length : Int) then (interval_Intersect.l0 kj5 x0_1 (x1_1.drop 1) y445) else (none)))) else (none)) else (if ((rd_T28 x0_1 0).f1) ≤ ((rd_T28 x1_1 0).f1) then (if 1 ≤ (x0_1.length : Int) then (interval_Intersect.l0 kj5 (x0_1.drop 1) x1_1 x7_1) else (none)) else (if 1 ≤ (x1_1.length : Int) then (interval_Intersect.l0 kj5 x0_1 (x1_1.drop 1) x7_1) else (none)))) else (none)) else (none)) = some (r1, r2) := by rw [if_pos rfl] at H; exact H
              clear H
              have H := H1
              clear H1
              by_cases c12 : 0 < (x0_1.length : Int)
              · rw [if_pos c12] at H
                have c12b0 : decide (0 < (x0_1.length : Int)) = true := decide_eq_true c12
                have c12b1 : decide (0 < x0_1.length) = true := decide_eq_true (by omega)
                clear c12
                by_cases c13 : 0 < (x1_1.length : Int)
                · rw [if_pos c13] at H
                  have c13b0 : decide (0 < (x1_1.length : Int)) = true := decide_eq_true c13
                  have c13b1 : decide (0 < x1_1.length) = true := decide_eq_true (by omega)
                  clear c13
                  obtain ⟨ji14, hji14⟩ : ∃ j_ : Int, (mx ((rd_T28 x0_1 0).f0) ((rd_T28 x1_1 0).f0)) = j_ := ⟨_, rfl⟩
                  replace H : (if (ji14) < (mn ((rd_T28 x0_1 0).f1) ((rd_T28 x1_1 0).f1)) then (if x7_1.length < 8796093022208 then ((some (x7_1 ++ [(⟨ji14, mn ((rd_T28 x0_1 0).f1) ((rd_T28 x1_1 0).f1)⟩ : S28)] : List (S28))).bind fun y445 => (if ((rd_T28 x0_1 0).f1) ≤ ((rd_T28 x1_1 0).f1) then (if 1 ≤ (x0_1.length : Int) then (interval_Intersect.l0 kj5 (x0_1.drop 1) x1_1 y445) else (none)) else (if 1 ≤ (x1_1.length : Int) then (interval_Intersect.l0 kj5 x0_1 (x1_1.drop 1) y445) else (none)))) else (none)) else (if ((rd_T28 x0_1 0).f1) ≤ ((rd_T28 x1_1 0).f1) then (if 1 ≤ (x0_1.length : Int) then (interval_Intersect.l0 kj5 (x0_1.drop 1) x1_1 x7_1) else (none)) else (if 1 ≤ (x1_1.length : Int) then (interval_Intersect.l0 kj5 x0_1 (x1_1.drop 1) x7_1) else (none)))) = some (r1, r2) := by first | (rw [hji14] at H; exact H) | (simp only [hji14] at H ⊢; exact H)
                  have hji14_ : (if ((rd_T28 x0_1 0).f0) < ((rd_T28 x1_1 0).f0) then ((rd_T28 x1_1 0).f0) else ((rd_T28 x0_1 0).f0)) = ji14 := hji14
                  obtain ⟨ji15, hji15⟩ : ∃ j_ : Int, (mn ((rd_T28 x0_1 0).f1) ((rd_T28 x1_1 0).f1)) = j_ := ⟨_, rfl⟩
                  replace H : (if (ji14) < (ji15) then (if x7_1.length < 8796093022208 then ((some (x7_1 ++ [(⟨ji14, ji15⟩ : S28)] : List (S28))).bind fun y445 => (if ((rd_T28 x0_1 0).f1) ≤ ((rd_T28 x1_1 0).f1) then (if 1 ≤ (x0_1.length : Int) then (interval_Intersect.l0 kj5 (x0_1.drop 1) x1_1 y445) else (none)) else (if 1 ≤ (x1_1.length : Int) then (interval_Intersect.l0 kj5 x0_1 (x1_1.drop 1) y445) else (none)))) else (none)) else (if ((rd_T28 x0_1 0).f1) ≤ ((rd_T28 x1_1 0).f1) then (if 1 ≤ (x0_1.length : Int) then (interval_Intersect.l0 kj5 (x0_1.drop 1) x1_1 x7_1) else (none)) else (if 1 ≤ (x1_1.length : Int) then (interval_Intersect.l0 kj5 x0_1 (x1_1.drop 1) x7_1) else (none)))) = some (r1, r2) := by first | (rw [hji15] at H; exact H) | (simp only [hji15] at H ⊢; exact H)
                  have hji15_ : (if ((rd_T28 x1_1 0).f1) < ((rd_T28 x0_1 0).f1) then ((rd_T28 x1_1 0).f1) else ((rd_T28 x0_1 0).f1)) = ji15 := hji15
                  by_cases c16 : (ji14) < (ji15)
                  · rw [if_pos c16] at H
                    have c16b0 : decide ((ji14) < (ji15)) = true := decide_eq_true c16
                    clear c16
                    by_cases c17 : x7_1.length < 8796093022208
                    · rw [if_pos c17] at H
                      have LMc17 := Aside0.mk c17
                      clear c17
                      obtain ⟨y445, hy445⟩ : ∃ y_ : List (S28), y_ = (x7_1 ++ [(⟨ji14, ji15⟩ : S28)]) := ⟨_, rfl⟩
                      replace H : (if ((rd_T28 x0_1 0).f1) ≤ ((rd_T28 x1_1 0).f1) then (if 1 ≤ (x0_1.length : Int) then (interval_Intersect.l0 kj5 (x0_1.drop 1) x1_1 y445) else (none)) else (if 1 ≤ (x1_1.length : Int) then (interval_Intersect.l0 kj5 x0_1 (x1_1.drop 1) y445) else (none))) = some (r1, r2) := by first | (rw [hy445]; with_reducible exact H) | (have H2_ := (Option.bind_some _ _).symm.trans H; rw [hy445]; with_reducible exact H2_) | (have H2_ := (Option.bind_some _ _).symm.trans H; with_reducible exact H2_) | with_reducible exact H | (rw [hy445]; exact H) | exact H
                      have Ny445 := Aside0.mk hy445
                      clear hy445
                      by_cases c18 : ((rd_T28 x0_1 0).f1) ≤ ((rd_T28 x1_1 0).f1)
                      · rw [if_pos c18] at H
                        have c18b0 : decide (((rd_T28 x0_1 0).f1) ≤ ((rd_T28 x1_1 0).f1)) = true := decide_eq_true c18
                        clear c18
                        by_cases c19 : 1 ≤ (x0_1.length : Int)
                        · rw [if_pos c19] at H
                          have c19b0 := eq_true c19
                          have c19b1 : decide (1 ≤ (x0_1.length : Int)) = true := decide_eq_true c19
                          clear c19
                          obtain ⟨y450, hy450⟩ : ∃ y_ : List (S28), y_ = (x0_1.drop 1) := ⟨_, rfl⟩
                          replace H : (interval_Intersect.l0 kj5 y450 x1_1 y445) = some (r1, r2) := by first | (rw [hy450]; with_reducible exact H) | (have H2_ := (Option.bind_some _ _).symm.trans H; rw [hy450]; with_reducible exact H2_) | (have H2_ := (Option.bind_some _ _).symm.trans H; with_reducible exact H2_) | with_reducible exact H | (rw [hy450]; exact H) | exact H
                          have Ny450 := Aside0.mk hy450
                          clear hy450
                          have H' := Aside0.mk H
                          clear H
                          try go_wp2
                          have n0_ := Aside0.mk (Kd.V_drew HO_0.out)
                          have n1_ := Aside0.mk (Kd.V_drew HO_1.out)
                          have n2_ := Aside0.mk (Kd.R_drew HO_7.out)
                          have n3_ := Aside0.mk (below_drew1 HB.out)
                          clear HO_0
                          clear HO_1
                          clear HO_7
                          clear HB
                          have HO_0 := n0_
                          have HO_1 := n1_
                          have HO_7 := n2_
                          have HB := n3_
                          clear n0_ n1_ n2_ n3_
                          obtain ⟨Ao21, co21, eo21⟩ := Kd.V_slice HO_0.out
                          (first | subst eo21 | (injection eo21 with f1_ f2_ f3_; have f4_ := f1_.symm; have f5_ := f3_.symm; clear f1_ f2_ f3_; subst f4_; subst f5_))
                          have p440 : 0 ≤ (0 : Int) := (by omega)
                          have q440 : 0 < (x0_1.length : Int) := of_decide_eq_true (by first | (with_reducible assumption) | assumption)
                          obtain ⟨ad440, e440, hx440_0, hx440_1⟩ := at_T28 (Kd.V_reads' HO_0.out).2.2 0 p440 q440
                          cases e440
                          have qi440 : (0 < x0_1.length) = True := eq_true (by omega)
                          (try rw [show ((0 : Int)).toNat = 0 from rfl] at hx440_0)
                          (try rw [show 0 * 2 = 0 from rfl] at hx440_0)
                          (try rw [Addr.add_zero'] at hx440_0)
                          (try rw [show ((0 : Int)).toNat = 0 from rfl] at hx440_1)
                          (try rw [show 0 * 2 = 0 from rfl] at hx440_1)
                          (try rw [Addr.add_zero'] at hx440_1)
                          replace p440 := eq_true p440
                          replace q440 := eq_true q440
                          obtain ⟨Ao22, co22, eo22⟩ := Kd.V_slice HO_1.out
                          (first | subst eo22 | (injection eo22 with f1_ f2_ f3_; have f4_ := f1_.symm; have f5_ := f3_.symm; clear f1_ f2_ f3_; subst f4_; subst f5_))
                          have p441 : 0 ≤ (0 : Int) := (by omega)
                          have q441 : 0 < (x1_1.length : Int) := of_decide_eq_true (by first | (with_reducible assumption) | assumption)
                          obtain ⟨ad441, e441, hx441_0, hx441_1⟩ := at_T28 (Kd.V_reads' HO_1.out).2.2 0 p441 q441
                          cases e441
                          have qi441 : (0 < x1_1.length) = True := eq_true (by omega)
                          (try rw [show ((0 : Int)).toNat = 0 from rfl] at hx441_0)
                          (try rw [show 0 * 2 = 0 from rfl] at hx441_0)
                          (try rw [Addr.add_zero'] at hx441_0)
                          (try rw [show ((0 : Int)).toNat = 0 from rfl] at hx441_1)
                          (try rw [show 0 * 2 = 0 from rfl] at hx441_1)
                          (try rw [Addr.add_zero'] at hx441_1)
                          replace p441 := eq_true p441
                          replace q441 := eq_true q441
                          have p442 : 0 ≤ (0 : Int) := (by omega)
                          have q442 : 0 < (x0_1.length : Int) := of_decide_eq_true (by first | (with_reducible assumption) | assumption)
                          obtain ⟨ad442, e442, hx442_0, hx442_1⟩ := at_T28 (Kd.V_reads' HO_0.out).2.2 0 p442 q442
                          obtain rfl : ad440 = ad442 := (by injection e442)
                          have qi442 : (0 < x0_1.length) = True := eq_true (by omega)
                          (try rw [show ((0 : Int)).toNat = 0 from rfl] at hx442_0)
                          (try rw [show 0 * 2 = 0 from rfl] at hx442_0)
                          (try rw [Addr.add_zero'] at hx442_0)
                          (try rw [show ((0 : Int)).toNat = 0 from rfl] at hx442_1)
                          (try rw [show 0 * 2 = 0 from rfl] at hx442_1)
                          (try rw [Addr.add_zero'] at hx442_1)
                          replace p442 := eq_true p442
                          replace q442 := eq_true q442
                          have p443 : 0 ≤ (0 : Int) := (by omega)
                          have q443 : 0 < (x1_1.length : Int) := of_decide_eq_true (by first | (with_reducible assumption) | assumption)
                          obtain ⟨ad443, e443, hx443_0, hx443_1⟩ := at_T28 (Kd.V_reads' HO_1.out).2.2 0 p443 q443
                          obtain rfl : ad441 = ad443 := (by injection e443)
                          have qi443 : (0 < x1_1.length) = True := eq_true (by omega)
                          (try rw [show ((0 : Int)).toNat = 0 from rfl] at hx443_0)
                          (try rw [show 0 * 2 = 0 from rfl] at hx443_0)
                          (try rw [Addr.add_zero'] at hx443_0)
                          (try rw [show ((0 : Int)).toNat = 0 from rfl] at hx443_1)
                          (try rw [show 0 * 2 = 0 from rfl] at hx443_1)
                          (try rw [Addr.add_zero'] at hx443_1)
                          replace p443 := eq_true p443
                          replace q443 := eq_true q443
                          refine start_ (n := 21) (S := fun w' => w'.cell? ad440 = some (.int .i64 ((rd_T28 x0_1 0).f0)) ∧ w'.cell? ⟨ad440.block, ad440.off + 1, none⟩ = some (.int .i64 ((rd_T28 x0_1 0).f1)) ∧ w'.cell? ad441 = some (.int .i64 ((rd_T28 x1_1 0).f0)) ∧ w'.cell? ⟨ad441.block, ad441.off + 1, none⟩ = some (.int .i64 ((rd_T28 x1_1 0).f1)) ∧ w'.cell? ad440 = some (.int .i64 ((rd_T28 x0_1 0).f0)) ∧ w'.cell? ⟨ad440.block, ad440.off + 1, none⟩ = some (.int .i64 ((rd_T28 x0_1 0).f1)) ∧ w'.cell? ad441 = some (.int .i64 ((rd_T28 x1_1 0).f0)) ∧ w'.cell? ⟨ad441.block, ad441.off + 1, none⟩ = some (.int .i64 ((rd_T28 x1_1 0).f1))) (ds := []) #[false, false, false, false, false, false, false, false, false, false, false, false, false, false, false, false, false, false, false, false, false] (by kernel_rfl) rfl rfl ⟨hx440_0, hx440_1, hx441_0, hx441_1, hx442_0, hx442_1, hx443_0, hx443_1⟩ (fun hHeld => ?_); refine with_tabW interval_Intersect.tab6 interval_Intersect.bits6 (fun HT_ HW_ => ?_)
                          generalize wc.drew = w20 at HO_0 HO_1 HO_7 HB hx440_0 hx440_1 hx441_0 hx441_1 hx442_0 hx442_1 hx443_0 hx443_1 hHeld ⊢
                          refine pure_ (i := 0) (N := some 23) (v := ?_) (a' := ?_) #[true, false, false, false, false, false, false, false, false, false, false, false, false, false, false, false, false, false, false, false, false] rfl rfl (any_of HT_.out (by kernel_rfl)) (fun _ _ _ h => h) (Or.inl ⟨by rfl, ?_⟩) ?_ ?_
                          rotate_left
                          · intro w'
                            go_simp
                            with_reducible rfl
                          rotate_left
                          · simp only [Act.put, List.setIfInBounds_toArray, List.set_cons_zero, List.set_cons_succ, i64_w, i32_w]
                            rfl
                          refine pure_ (i := 1) (N := some 24) (v := ?_) (a' := ?_) #[true, true, false, false, false, false, false, false, false, false, false, false, false, false, false, false, false, false, false, false, false] rfl rfl (any_of HT_.out (by kernel_rfl)) (fun _ _ _ h => h) (Or.inl ⟨by rfl, ?_⟩) ?_ ?_
                          rotate_left
                          · intro w'
                            go_simp
                            with_reducible rfl
                          rotate_left
                          · simp only [Act.put, List.setIfInBounds_toArray, List.set_cons_zero, List.set_cons_succ, i64_w, i32_w]
                            rfl
                          refine pure_ (i := 2) (N := some 25) (v := ?_) (a' := ?_) #[true, true, true, false, false, false, false, false, false, false, false, false, false, false, false, false, false, false, false, false, false] rfl rfl (any_of HT_.out (by kernel_rfl)) (fun _ _ _ h => h) (Or.inl ⟨by rfl, ?_⟩) ?_ ?_
                          rotate_left
                          · intro w'
                            go_simp
                            with_reducible rfl
                          rotate_left
                          · simp only [Act.put, List.setIfInBounds_toArray, List.set_cons_zero, List.set_cons_succ, i64_w, i32_w]
                            rfl
                          refine pure_ (i := 4) (N := some 27) (v := ?_) (a' := ?_) #[true, true, true, false, true, false, false, false, false, false, false, false, false, false, false, false, false, false, false, false, false] rfl rfl (any_of HT_.out (by kernel_rfl)) (fun _ _ _ h => h) (Or.inl ⟨by rfl, ?_⟩) ?_ ?_
                          rotate_left
                          · intro w'
                            go_simp
                            with_reducible rfl
                          rotate_left
                          · simp only [Act.put, List.setIfInBounds_toArray, List.set_cons_zero, List.set_cons_succ, i64_w, i32_w]
                            rfl
                          refine pure_ (i := 5) (N := some 28) (v := ?_) (a' := ?_) #[true, true, true, false, true, true, false, false, false, false, false, false, false, false, false, false, false, false, false, false, false] rfl rfl (any_of HT_.out (by kernel_rfl)) (fun _ _ _ h => h) (Or.inl ⟨by rfl, ?_⟩) ?_ ?_
                          rotate_left
                          · intro w'
                            go_simp
                            with_reducible rfl
                          rotate_left
                          · simp only [Act.put, List.setIfInBounds_toArray, List.set_cons_zero, List.set_cons_succ, i64_w, i32_w]
                            rfl
                          refine pure_ (i := 6) (N := some 29) (v := ?_) (a' := ?_) #[true, true, true, false, true, true, true, false, false, false, false, false, false, false, false, false, false, false, false, false, false] rfl rfl (any_of HT_.out (by kernel_rfl)) (fun _ _ _ h => h) (Or.inl ⟨by rfl, ?_⟩) ?_ ?_
                          rotate_left
                          · intro w'
                            go_simp
                            with_reducible rfl
                          rotate_left
                          · simp only [Act.put, List.setIfInBounds_toArray, List.set_cons_zero, List.set_cons_succ, i64_w, i32_w]
                            rfl
                          refine pure_ (i := 9) (N := some 32) (v := ?_) (a' := ?_) #[true, true, true, false, true, true, true, false, false, true, false, false, false, false, false, false, false, false, false, false, false] rfl rfl (any_of HT_.out (by kernel_rfl)) (fun _ _ _ h => h) (Or.inl ⟨by rfl, ?_⟩) ?_ ?_
                          rotate_left
                          · intro w'
                            go_simp
                            with_reducible rfl
                          rotate_left
                          · simp only [Act.put, List.setIfInBounds_toArray, List.set_cons_zero, List.set_cons_succ, i64_w, i32_w]
                            rfl
                          refine pure_ (i := 10) (N := some 33) (v := ?_) (a' := ?_) #[true, true, true, false, true, true, true, false, false, true, true, false, false, false, false, false, false, false, false, false, false] rfl rfl (any_of HT_.out (by kernel_rfl)) (fun _ _ _ h => h) (Or.inl ⟨by rfl, ?_⟩) ?_ ?_
                          rotate_left
                          · intro w'
                            go_simp
                            with_reducible rfl
                          rotate_left
                          · simp only [Act.put, List.setIfInBounds_toArray, List.set_cons_zero, List.set_cons_succ, i64_w, i32_w]
                            rfl
                          refine pure_ (i := 11) (N := some 34) (v := ?_) (a' := ?_) #[true, true, true, false, true, true, true, false, false, true, true, true, false, false, false, false, false, false, false, false, false] rfl rfl (any_of HT_.out (by kernel_rfl)) (fun _ _ _ h => h) (Or.inl ⟨by rfl, ?_⟩) ?_ ?_
                          rotate_left
                          · intro w'
                            go_simp
                            with_reducible rfl
                          rotate_left
                          · simp only [Act.put, List.setIfInBounds_toArray, List.set_cons_zero, List.set_cons_succ, i64_w, i32_w]
                            rfl
                          refine pure_ (i := 13) (N := some 36) (v := ?_) (a' := ?_) #[true, true, true, false, true, true, true, false, false, true, true, true, false, true, false, false, false, false, false, false, false] rfl rfl (any_of HT_.out (by kernel_rfl)) (fun _ _ _ h => h) (Or.inl ⟨by rfl, ?_⟩) ?_ ?_
                          rotate_left
                          · intro w'
                            go_simp
                            with_reducible rfl
                          rotate_left
                          · simp only [Act.put, List.setIfInBounds_toArray, List.set_cons_zero, List.set_cons_succ, i64_w, i32_w]
                            rfl
                          refine pure_ (i := 14) (N := some 37) (v := ?_) (a' := ?_) #[true, true, true, false, true, true, true, false, false, true, true, true, false, true, true, false, false, false, false, false, false] rfl rfl (any_of HT_.out (by kernel_rfl)) (fun _ _ _ h => h) (Or.inl ⟨by rfl, ?_⟩) ?_ ?_
                          rotate_left
                          · intro w'
                            go_simp
                            with_reducible rfl
                          rotate_left
                          · simp only [Act.put, List.setIfInBounds_toArray, List.set_cons_zero, List.set_cons_succ, i64_w, i32_w]
                            rfl
                          refine pure_ (i := 15) (N := some 38) (v := ?_) (a' := ?_) #[true, true, true, false, true, true, true, false, false, true, true, true, false, true, true, true, false, false, false, false, false] rfl rfl (any_of HT_.out (by kernel_rfl)) (fun _ _ _ h => h) (Or.inl ⟨by rfl, ?_⟩) ?_ ?_
                          rotate_left
                          · intro w'
                            go_simp
                            with_reducible rfl
                          rotate_left
                          · simp only [Act.put, List.setIfInBounds_toArray, List.set_cons_zero, List.set_cons_succ, i64_w, i32_w]
                            rfl
                          refine take_ (i := 3) (N := some 26) (v := ?_) (a' := ?_) #[true, true, true, true, true, true, true, false, false, true, true, true, false, true, true, true, false, false, false, false, false] rfl rfl (take_ofW HT_.out HW_.out (by kernel_rfl)) (fun _ _ _ h => h) (Or.inl ⟨by rfl, ?_⟩) hHeld ?_ ?_
                          rotate_left
                          · rintro w' ⟨s0, s1, s2, s3, s4, s5, s6, s7⟩
                            go_simp
                            with_reducible rfl
                          rotate_left
                          · simp only [Act.put, List.setIfInBounds_toArray, List.set_cons_zero, List.set_cons_succ, i64_w, i32_w]
                            rfl
                          refine take_ (i := 7) (N := some 30) (v := ?_) (a' := ?_) #[true, true, true, true, true, true, true, true, false, true, true, true, false, true, true, true, false, false, false, false, false] rfl rfl (take_ofW HT_.out HW_.out (by kernel_rfl)) (fun _ _ _ h => h) (Or.inl ⟨by rfl, ?_⟩) hHeld ?_ ?_
                          rotate_left
                          · rintro w' ⟨s0, s1, s2, s3, s4, s5, s6, s7⟩
                            go_simp
                            with_reducible rfl
                          rotate_left
                          · simp only [Act.put, List.setIfInBounds_toArray, List.set_cons_zero, List.set_cons_succ, i64_w, i32_w]
                            rfl
                          refine pure_ (i := 8) (N := some 31) (v := ?_) (a' := ?_) #[true, true, true, true, true, true, true, true, true, true, true, true, false, true, true, true, false, false, false, false, false] rfl rfl (any_of HT_.out (by kernel_rfl)) (fun _ _ _ h => h) (Or.inl ⟨by rfl, ?_⟩) ?_ ?_
                          rotate_left
                          · intro w'
                            go_simp
                            with_reducible rfl
                          rotate_left
                          · simp only [Act.put, List.setIfInBounds_toArray, List.set_cons_zero, List.set_cons_succ, i64_w, i32_w]
                            rfl
                          refine take_ (i := 12) (N := some 35) (v := ?_) (a' := ?_) #[true, true, true, true, true, true, true, true, true, true, true, true, true, true, true, true, false, false, false, false, false] rfl rfl (take_ofW HT_.out HW_.out (by kernel_rfl)) (fun _ _ _ h => h) (Or.inl ⟨by rfl, ?_⟩) hHeld ?_ ?_
                          rotate_left
                          · rintro w' ⟨s0, s1, s2, s3, s4, s5, s6, s7⟩
                            go_simp
                            with_reducible rfl
                          rotate_left
                          · simp only [Act.put, List.setIfInBounds_toArray, List.set_cons_zero, List.set_cons_succ, i64_w, i32_w]
                            rfl
                          refine take_ (i := 16) (N := some 39) (v := ?_) (a' := ?_) #[true, true, true, true, true, true, true, true, true, true, true, true, true, true, true, true, true, false, false, false, false] rfl rfl (take_ofW HT_.out HW_.out (by kernel_rfl)) (fun _ _ _ h => h) (Or.inl ⟨by rfl, ?_⟩) hHeld ?_ ?_
                          rotate_left
                          · rintro w' ⟨s0, s1, s2, s3, s4, s5, s6, s7⟩
                            go_simp
                            with_reducible rfl
                          rotate_left
                          · simp only [Act.put, List.setIfInBounds_toArray, List.set_cons_zero, List.set_cons_succ, i64_w, i32_w]
                            rfl
                          refine pure_ (i := 17) (N := some 40) (v := ?_) (a' := ?_) #[true, true, true, true, true, true, true, true, true, true, true, true, true, true, true, true, true, true, false, false, false] rfl rfl (any_of HT_.out (by kernel_rfl)) (fun _ _ _ h => h) (Or.inl ⟨by rfl, ?_⟩) ?_ ?_
                          rotate_left
                          · intro w'
                            go_simp
                            with_reducible rfl
                          rotate_left
                          · simp only [Act.put, List.setIfInBounds_toArray, List.set_cons_zero, List.set_cons_succ, i64_w, i32_w]
                            rfl
                          refine pure_ (i := 18) (N := some 41) (v := ?_) (a' := ?_) #[true, true, true, true, true, true, true, true, true, true, true, true, true, true, true, true, true, true, true, false, false] rfl rfl (any_of HT_.out (by kernel_rfl)) (fun _ _ _ h => h) (Or.inl ⟨by rfl, ?_⟩) ?_ ?_
                          rotate_left
                          · intro w'
                            go_simp
                            with_reducible rfl
                          rotate_left
                          · simp only [Act.put, List.setIfInBounds_toArray, List.set_cons_zero, List.set_cons_succ, i64_w, i32_w]
                            rfl
                          refine one_ (i := 19) (N := some 8) #[true, true, true, true, true, true, true, true, true, true, true, true, true, true, true, true, true, true, true, true, false] rfl rfl (one_of HT_.out (by kernel_rfl)) (by decide) (fun K hK => ?_)
                          refine box_step ?hg (N := 8) ?hd (cs := #[.int .i64 0, .int .i64 0]) (t := 28) ?hr ?_; (case hd => rfl); (case hg => rfl); (case hr => first | (go_simp; done) | (go_simp; rfl))
                          intro gb444 hg w23 hbox hb
                          have HS0_ := (hb.cell (World.block_lt_of_cell? _ _ (hHeld.1))).trans (hHeld.1)
                          have HS1_ := (hb.cell (World.block_lt_of_cell? _ _ (hHeld.2.1))).trans (hHeld.2.1)
                          have HS2_ := (hb.cell (World.block_lt_of_cell? _ _ (hHeld.2.2.1))).trans (hHeld.2.2.1)
                          have HS3_ := (hb.cell (World.block_lt_of_cell? _ _ (hHeld.2.2.2.1))).trans (hHeld.2.2.2.1)
                          have HS4_ := (hb.cell (World.block_lt_of_cell? _ _ (hHeld.2.2.2.2.1))).trans (hHeld.2.2.2.2.1)
                          have HS5_ := (hb.cell (World.block_lt_of_cell? _ _ (hHeld.2.2.2.2.2.1))).trans (hHeld.2.2.2.2.2.1)
                          have HS6_ := (hb.cell (World.block_lt_of_cell? _ _ (hHeld.2.2.2.2.2.2.1))).trans (hHeld.2.2.2.2.2.2.1)
                          have HS7_ := (hb.cell (World.block_lt_of_cell? _ _ (hHeld.2.2.2.2.2.2.2))).trans (hHeld.2.2.2.2.2.2.2)
                          have n0_ := Aside0.mk (Kd.V_below (Kd.V_elderB (by (with_reducible repeat (first | apply Kd.V_alloc | apply Kd.V_drewN | apply Kd.V_drew)); exact HO_0.out) gb444 (Nat.le_of_eq hg.symm)) hb)
                          have n1_ := Aside0.mk (Kd.V_below (Kd.V_elderB (by (with_reducible repeat (first | apply Kd.V_alloc | apply Kd.V_drewN | apply Kd.V_drew)); exact HO_1.out) gb444 (Nat.le_of_eq hg.symm)) hb)
                          have n2_ := Aside0.mk (Kd.R_below (Kd.R_elderB (by (with_reducible repeat (first | apply Kd.R_alloc | apply Kd.R_drewN | apply Kd.R_drew)); exact HO_7.out) gb444 (Nat.le_of_eq hg.symm)) hb)
                          have n3_ := Aside0.mk (below_step (by repeat (first | (with_reducible first | exact HB.out | apply below_alloc | apply pw_below_drewN | apply below_drew1) | exact HB.out)) hb)
                          have n4_ := Aside0.mk (hbox)
                          have n5_ := Aside0.mk ((by rw [hg]; exact (below_size (by repeat (first | (with_reducible first | exact HB.out | apply below_alloc | apply pw_below_drewN | apply below_drew1) | exact HB.out))) : w.heap.size ≤ gb444))
                          have n6_ := Aside0.mk ((by rw [hg]; exact (below_size (by repeat (first | (with_reducible first | exact HB.out | apply below_alloc | apply pw_below_drewN | apply below_drew1) | exact HB.out))) : w.heap.size ≤ gb444))
                          clear HO_0
                          clear HO_1
                          clear HO_7
                          clear HB
                          have HO_0 := n0_
                          have HO_1 := n1_
                          have HO_7 := n2_
                          have HB := n3_
                          have BK444 := n4_
                          have GW444 := n5_
                          have GE444 := n6_
                          clear n0_ n1_ n2_ n3_ n4_ n5_ n6_
                          clear hb hbox hg
                          refine hK.out _ _ ⟨HS0_, HS1_, HS2_, HS3_, HS4_, HS5_, HS6_, HS7_⟩ (fun hHeld => ?_)
                          clear hK K
                          refine norm_ (a' := ?_) ?_ ?_
                          rotate_left
                          · show Act.put _ (some 8) _ = _
                            simp only [Act.put, List.setIfInBounds_toArray, List.set_cons_zero, List.set_cons_succ, i64_w, i32_w]
                            rfl
                          refine one_ (i := 20) (N := none) #[true, true, true, true, true, true, true, true, true, true, true, true, true, true, true, true, true, true, true, true, true] rfl rfl (one_of HT_.out (by kernel_rfl)) (by decide) (fun K hK => ?_)
                          have hs24 : w23.cell? ⟨gb444, 0, none⟩ = some (.int .i64 0) := (blk_cell BK444.out 0).trans rfl
                          have hfs24 := blk_frozen BK444.out 0
                          have hs25 : w23.cell? ⟨gb444, 1, none⟩ = some (.int .i64 0) := (blk_cell BK444.out 1).trans rfl
                          have hfs25 := blk_frozen BK444.out 1
                          refine skip_ (w1 := ?_) (by rfl) rfl ?_ ?_
                          rotate_left
                          · go_simp
                            rfl
                          have hne0_ : ad440.block ≠ gb444 := (V_block HO_0.out (of_decide_eq_true (by assumption)) (by decide)).2; have hne1_ : ad441.block ≠ gb444 := (V_block HO_1.out (of_decide_eq_true (by assumption)) (by decide)).2; refine hK.out _ _ ⟨((cell_far (p := ⟨gb444, _, none⟩) (by exact hne0_) _).trans (((cell_far (p := ⟨gb444, _, none⟩) (by exact hne0_) _).trans (hHeld.1)))), ((cell_far (p := ⟨gb444, _, none⟩) (by exact hne0_) _).trans (((cell_far (p := ⟨gb444, _, none⟩) (by exact hne0_) _).trans (hHeld.2.1)))), ((cell_far (p := ⟨gb444, _, none⟩) (by exact hne1_) _).trans (((cell_far (p := ⟨gb444, _, none⟩) (by exact hne1_) _).trans (hHeld.2.2.1)))), ((cell_far (p := ⟨gb444, _, none⟩) (by exact hne1_) _).trans (((cell_far (p := ⟨gb444, _, none⟩) (by exact hne1_) _).trans (hHeld.2.2.2.1)))), ((cell_far (p := ⟨gb444, _, none⟩) (by exact hne0_) _).trans (((cell_far (p := ⟨gb444, _, none⟩) (by exact hne0_) _).trans (hHeld.2.2.2.2.1)))), ((cell_far (p := ⟨gb444, _, none⟩) (by exact hne0_) _).trans (((cell_far (p := ⟨gb444, _, none⟩) (by exact hne0_) _).trans (hHeld.2.2.2.2.2.1)))), ((cell_far (p := ⟨gb444, _, none⟩) (by exact hne1_) _).trans (((cell_far (p := ⟨gb444, _, none⟩) (by exact hne1_) _).trans (hHeld.2.2.2.2.2.2.1)))), ((cell_far (p := ⟨gb444, _, none⟩) (by exact hne1_) _).trans (((cell_far (p := ⟨gb444, _, none⟩) (by exact hne1_) _).trans (hHeld.2.2.2.2.2.2.2))))⟩ (fun hHeld => ?_)
                          clear hK K
                          refine done_ (done_of HT_.out (by kernel_rfl)) ?_
                          have hcz26_0 : w23.cell? ⟨gb444, 0, none⟩ = some (.int .i64 0) := (blk_cell BK444.out 0).trans rfl
                          have hcz26_1 : w23.cell? ⟨gb444, 1, none⟩ = some (.int .i64 0) := (blk_cell BK444.out 1).trans rfl
                          have hfz26_0 := blk_frozen BK444.out 0
                          have hfz26_1 := blk_frozen BK444.out 1
                          try go_wp2_with (first | ((with_reducible refine gate_builtin (b := .append) (xs := #[.tmp 47, .tmp 49]) rfl ?_); (try (refine gate_guard (by rfl) ?_; dsimp only)); at_builtin; refine Kd.R_append k28 (w0 := w) w.heap.size rfl (.tmp 47) (.tmp 49) 22 28 (.agg #[(.int .i64 0), (.int .i64 0)]) 16 rfl Try.underlying22 info28 rfl (by decide) (by omega) u7 x7_1 (⟨ji14, ji15⟩ : S28) [.int .i64 ji14, .int .i64 ji15] (fun k_ => (w.heap.size ≤ k_) ∧ k_ ≠ gb444) (fun _ => False) rfl (by first | (go_simp; done) | (go_simp; rfl)) ?aP (fun _ hk => hk.elim) ?aF ?aO ?aB ?aS ?aL ?_; (case aP => exact k28_mkM _ _ _ (⟨ji14, ji15⟩ : S28)); (case aB => exact (by repeat (first | (with_reducible first | exact HB.out | apply below_alloc | apply pw_below_drewN | apply below_drew1 | refine below_set ?_ GE444.out) | exact HB.out))); (case aF => exact (fun k_ hk => ⟨(Nat.le_trans (below_size (by repeat (first | (with_reducible first | exact HB.out | apply below_alloc | apply pw_below_drewN | apply below_drew1 | refine below_set ?_ GE444.out) | exact HB.out))) hk), Kd.freshB (g := gb444) (o := .cells #[.int .i64 ji14, .int .i64 ji15] 28 (0, 0)) (by (with_reducible repeat (first | refine blk_drewN ?_ _ | refine blk_drew ?_ | refine blk_alloc ?_ _)); refine blk_put (cs := #[.int .i64 ji14, .int .i64 0]) ?_ 1 _ rfl; (with_reducible repeat (first | refine blk_drewN ?_ _ | refine blk_drew ?_ | refine blk_alloc ?_ _)); refine blk_put (cs := #[.int .i64 0, .int .i64 0]) ?_ 0 _ rfl; (with_reducible repeat (first | refine blk_drewN ?_ _ | refine blk_drew ?_ | refine blk_alloc ?_ _)); exact BK444.out) k_ hk⟩)); (case aO => exact (by (with_reducible repeat (first | apply Kd.R_alloc | apply Kd.R_drewN | apply Kd.R_drew)); exact Kd.R_mono (Kd.R_far (p := ⟨gb444, 1, none⟩) (Kd.R_far (p := ⟨gb444, 0, none⟩) (Kd.R_mono HO_7.out (fun k_ hk => (⟨hk, hk.2⟩ : _ ∧ k_ ≠ gb444))) (fun _ hk => hk.2) (.int .i64 ji14)) (fun _ hk => hk.2) (.int .i64 ji15)) (fun _ hk => ⟨hk.1.1, hk.1.2⟩))); (case aS => exact (below_size (by repeat (first | (with_reducible first | exact HB.out | apply below_alloc | apply pw_below_drewN | apply below_drew1 | refine below_set ?_ GE444.out) | exact HB.out)))); (case aL => have := LMc17.out; omega); intro v446 w27 ho hb hg hat; rw [← Ny445.out] at ho; have n0_ := Aside0.mk (Kd.V_afterv (ok := (fun k_ => ((P0_ k_ ∨ P1_ k_) ∨ w.heap.size ≤ k_) ∧ k_ ≠ gb444)) (by (with_reducible repeat (first | apply Kd.V_alloc | apply Kd.V_drewN | apply Kd.V_drew)); exact Kd.V_mono (Kd.V_far (p := ⟨gb444, 1, none⟩) (Kd.V_far (p := ⟨gb444, 0, none⟩) (Kd.V_mono HO_0.out (fun k_ hk => (⟨hk, hk.2⟩ : _ ∧ k_ ≠ gb444))) (fun _ hk => hk.2) (.int .i64 ji14)) (fun _ hk => hk.2) (.int .i64 ji15)) (fun _ hk => ⟨⟨hk.1.1.1, hk.1.2⟩, hk.1.1.2⟩)) hg hat); have n1_ := Aside0.mk (Kd.V_afterv (ok := (fun k_ => ((P0_ k_ ∨ P1_ k_) ∨ w.heap.size ≤ k_) ∧ k_ ≠ gb444)) (by (with_reducible repeat (first | apply Kd.V_alloc | apply Kd.V_drewN | apply Kd.V_drew)); exact Kd.V_mono (Kd.V_far (p := ⟨gb444, 1, none⟩) (Kd.V_far (p := ⟨gb444, 0, none⟩) (Kd.V_mono HO_1.out (fun k_ hk => (⟨hk, hk.2⟩ : _ ∧ k_ ≠ gb444))) (fun _ hk => hk.2) (.int .i64 ji14)) (fun _ hk => hk.2) (.int .i64 ji15)) (fun _ hk => ⟨⟨hk.1.1.1, hk.1.2⟩, hk.1.1.2⟩)) hg hat); have n2_ := Aside0.mk (blk_grown (g := gb444) (o := .cells #[.int .i64 ji14, .int .i64 ji15] 28 (0, 0)) (by (with_reducible repeat (first | refine blk_drewN ?_ _ | refine blk_drew ?_ | refine blk_alloc ?_ _)); refine blk_put (cs := #[.int .i64 ji14, .int .i64 0]) ?_ 1 _ rfl; (with_reducible repeat (first | refine blk_drewN ?_ _ | refine blk_drew ?_ | refine blk_alloc ?_ _)); refine blk_put (cs := #[.int .i64 0, .int .i64 0]) ?_ 0 _ rfl; (with_reducible repeat (first | refine blk_drewN ?_ _ | refine blk_drew ?_ | refine blk_alloc ?_ _)); exact BK444.out) hg (Kd.R_away HO_7.out (fun _ hk => hk.2))); have n3_ := Aside0.mk (hb); have n4_ := Aside0.mk (ho); clear HO_0; clear HO_1; clear BK444; clear HB; clear HO_7; have HO_0 := n0_; have HO_1 := n1_; have BK444 := n2_; have HB := n3_; have HO447 := n4_; clear n0_ n1_ n2_ n3_ n4_; clear ho hb hg hat))
                          have n0_ := Aside0.mk (Kd.V_drew HO_0.out)
                          have n1_ := Aside0.mk (Kd.V_drew HO_1.out)
                          have n2_ := Aside0.mk (Kd.R_drew HO447.out)
                          have n3_ := Aside0.mk (blk_drew BK444.out)
                          have n4_ := Aside0.mk (below_drew1 HB.out)
                          clear HO_0
                          clear HO_1
                          clear HO447
                          clear BK444
                          clear HB
                          have HO_0 := n0_
                          have HO_1 := n1_
                          have HO447 := n2_
                          have BK444 := n3_
                          have HB := n4_
                          clear n0_ n1_ n2_ n3_ n4_
                          have p448 : 0 ≤ (0 : Int) := (by omega)
                          have q448 : 0 < (x0_1.length : Int) := of_decide_eq_true (by first | (with_reducible assumption) | assumption)
                          obtain ⟨ad448, e448, hx448_0, hx448_1⟩ := at_T28 (Kd.V_reads' HO_0.out).2.2 0 p448 q448
                          obtain rfl : ad440 = ad448 := (by injection e448)
                          have qi448 : (0 < x0_1.length) = True := eq_true (by omega)
                          (try rw [show ((0 : Int)).toNat = 0 from rfl] at hx448_0)
                          (try rw [show 0 * 2 = 0 from rfl] at hx448_0)
                          (try rw [Addr.add_zero'] at hx448_0)
                          (try rw [show ((0 : Int)).toNat = 0 from rfl] at hx448_1)
                          (try rw [show 0 * 2 = 0 from rfl] at hx448_1)
                          (try rw [Addr.add_zero'] at hx448_1)
                          replace p448 := eq_true p448
                          replace q448 := eq_true q448
                          have p449 : 0 ≤ (0 : Int) := (by omega)
                          have q449 : 0 < (x1_1.length : Int) := of_decide_eq_true (by first | (with_reducible assumption) | assumption)
                          obtain ⟨ad449, e449, hx449_0, hx449_1⟩ := at_T28 (Kd.V_reads' HO_1.out).2.2 0 p449 q449
                          obtain rfl : ad441 = ad449 := (by injection e449)
                          have qi449 : (0 < x1_1.length) = True := eq_true (by omega)
                          (try rw [show ((0 : Int)).toNat = 0 from rfl] at hx449_0)
                          (try rw [show 0 * 2 = 0 from rfl] at hx449_0)
                          (try rw [Addr.add_zero'] at hx449_0)
                          (try rw [show ((0 : Int)).toNat = 0 from rfl] at hx449_1)
                          (try rw [show 0 * 2 = 0 from rfl] at hx449_1)
                          (try rw [Addr.add_zero'] at hx449_1)
                          replace p449 := eq_true p449
                          replace q449 := eq_true q449
                          refine start_ (n := 9) (S := fun w' => w'.cell? ad440 = some (.int .i64 ((rd_T28 x0_1 0).f0)) ∧ w'.cell? ⟨ad440.block, ad440.off + 1, none⟩ = some (.int .i64 ((rd_T28 x0_1 0).f1)) ∧ w'.cell? ad441 = some (.int .i64 ((rd_T28 x1_1 0).f0)) ∧ w'.cell? ⟨ad441.block, ad441.off + 1, none⟩ = some (.int .i64 ((rd_T28 x1_1 0).f1))) (ds := []) #[false, false, false, false, false, false, false, false, false] (by kernel_rfl) rfl rfl ⟨hx448_0, hx448_1, hx449_0, hx449_1⟩ (fun hHeld => ?_); refine with_tabW interval_Intersect.tab9 interval_Intersect.bits9 (fun HT_ HW_ => ?_)
                          generalize w27.drew = w28 at HO_0 HO_1 HO447 BK444 HB hx448_0 hx448_1 hx449_0 hx449_1 hHeld ⊢
                          refine pure_ (i := 0) (N := some 51) (v := ?_) (a' := ?_) #[true, false, false, false, false, false, false, false, false] rfl rfl (any_of HT_.out (by kernel_rfl)) (fun _ _ _ h => h) (Or.inl ⟨by rfl, ?_⟩) ?_ ?_
                          rotate_left
                          · intro w'
                            go_simp
                            with_reducible rfl
                          rotate_left
                          · simp only [Act.put, List.setIfInBounds_toArray, List.set_cons_zero, List.set_cons_succ, i64_w, i32_w]
                            rfl
                          refine pure_ (i := 1) (N := some 52) (v := ?_) (a' := ?_) #[true, true, false, false, false, false, false, false, false] rfl rfl (any_of HT_.out (by kernel_rfl)) (fun _ _ _ h => h) (Or.inl ⟨by rfl, ?_⟩) ?_ ?_
                          rotate_left
                          · intro w'
                            go_simp
                            with_reducible rfl
                          rotate_left
                          · simp only [Act.put, List.setIfInBounds_toArray, List.set_cons_zero, List.set_cons_succ, i64_w, i32_w]
                            rfl
                          refine pure_ (i := 2) (N := some 53) (v := ?_) (a' := ?_) #[true, true, true, false, false, false, false, false, false] rfl rfl (any_of HT_.out (by kernel_rfl)) (fun _ _ _ h => h) (Or.inl ⟨by rfl, ?_⟩) ?_ ?_
                          rotate_left
                          · intro w'
                            go_simp
                            with_reducible rfl
                          rotate_left
                          · simp only [Act.put, List.setIfInBounds_toArray, List.set_cons_zero, List.set_cons_succ, i64_w, i32_w]
                            rfl
                          refine pure_ (i := 4) (N := some 55) (v := ?_) (a' := ?_) #[true, true, true, false, true, false, false, false, false] rfl rfl (any_of HT_.out (by kernel_rfl)) (fun _ _ _ h => h) (Or.inl ⟨by rfl, ?_⟩) ?_ ?_
                          rotate_left
                          · intro w'
                            go_simp
                            with_reducible rfl
                          rotate_left
                          · simp only [Act.put, List.setIfInBounds_toArray, List.set_cons_zero, List.set_cons_succ, i64_w, i32_w]
                            rfl
                          refine pure_ (i := 5) (N := some 56) (v := ?_) (a' := ?_) #[true, true, true, false, true, true, false, false, false] rfl rfl (any_of HT_.out (by kernel_rfl)) (fun _ _ _ h => h) (Or.inl ⟨by rfl, ?_⟩) ?_ ?_
                          rotate_left
                          · intro w'
                            go_simp
                            with_reducible rfl
                          rotate_left
                          · simp only [Act.put, List.setIfInBounds_toArray, List.set_cons_zero, List.set_cons_succ, i64_w, i32_w]
                            rfl
                          refine pure_ (i := 6) (N := some 57) (v := ?_) (a' := ?_) #[true, true, true, false, true, true, true, false, false] rfl rfl (any_of HT_.out (by kernel_rfl)) (fun _ _ _ h => h) (Or.inl ⟨by rfl, ?_⟩) ?_ ?_
                          rotate_left
                          · intro w'
                            go_simp
                            with_reducible rfl
                          rotate_left
                          · simp only [Act.put, List.setIfInBounds_toArray, List.set_cons_zero, List.set_cons_succ, i64_w, i32_w]
                            rfl
                          refine take_ (i := 3) (N := some 54) (v := ?_) (a' := ?_) #[true, true, true, true, true, true, true, false, false] rfl rfl (take_ofW HT_.out HW_.out (by kernel_rfl)) (fun _ _ _ h => h) (Or.inl ⟨by rfl, ?_⟩) hHeld ?_ ?_
                          rotate_left
                          · rintro w' ⟨s0, s1, s2, s3⟩
                            go_simp
                            with_reducible rfl
                          rotate_left
                          · simp only [Act.put, List.setIfInBounds_toArray, List.set_cons_zero, List.set_cons_succ, i64_w, i32_w]
                            rfl
                          refine take_ (i := 7) (N := some 58) (v := ?_) (a' := ?_) #[true, true, true, true, true, true, true, true, false] rfl rfl (take_ofW HT_.out HW_.out (by kernel_rfl)) (fun _ _ _ h => h) (Or.inl ⟨by rfl, ?_⟩) hHeld ?_ ?_
                          rotate_left
                          · rintro w' ⟨s0, s1, s2, s3⟩
                            go_simp
                            with_reducible rfl
                          rotate_left
                          · simp only [Act.put, List.setIfInBounds_toArray, List.set_cons_zero, List.set_cons_succ, i64_w, i32_w]
                            rfl
                          refine pure_ (i := 8) (N := some 59) (v := ?_) (a' := ?_) #[true, true, true, true, true, true, true, true, true] rfl rfl (any_of HT_.out (by kernel_rfl)) (fun _ _ _ h => h) (Or.inl ⟨by rfl, ?_⟩) ?_ ?_
                          rotate_left
                          · intro w'
                            go_simp
                            with_reducible rfl
                          rotate_left
                          · simp only [Act.put, List.setIfInBounds_toArray, List.set_cons_zero, List.set_cons_succ, i64_w, i32_w]
                            rfl
                          refine done_ (done_of HT_.out (by kernel_rfl)) ?_
                          have q29 : (1 : Int) ≤ ((x0_1.length : Int) : Int) := of_decide_eq_true (by first | (with_reducible assumption) | assumption)
                          obtain ⟨i029, hi029, _, hsz29, _⟩ := info_parts info28
                          have hroom29 : x0_1.length ≤ co21 := (Kd.V_reads' HO_0.out).2.1
                          have hC29 : Kd.F k28 _ _ (some ad440) x0_1.length x0_1 := (Kd.V_at (base := w.heap.size) HO_0.out).2.2
                          have hcut29 := cut_from (P := Try.prog) 22 28 .i64 Try.underlying22 hi029 2 hsz29 (some ad440) x0_1.length co21 1 (by omega) q29
                          have hr29 := Kd.F_cut (m := (1 : Int).toNat) (c := co21) hC29 (by omega) hroom29
                          obtain ⟨A29, hA29⟩ : ∃ A1, A1 = (if co21 = (1 : Int).toNat then (some ad440) else ((some ad440) : Option Addr).map (·.add ((1 : Int).toNat * 2))) := ⟨_, rfl⟩
                          obtain ⟨c29, hc29⟩ : ∃ c1, c1 = co21 - (1 : Int).toNat := ⟨_, rfl⟩
                          have hy29 : y450.length = x0_1.length - (1 : Int).toNat := (by rw [Ny450.out, List.length_drop] <;> omega)
                          rw [show (x0_1).drop (1 : Int).toNat = y450 from Ny450.out.symm] at hr29
                          replace hr29 : Kd.F k28 _ _ A29 y450.length y450 := (by rw [hA29]; exact hr29)
                          rw [← hy29, ← hA29, ← hc29] at hcut29
                          have HO454 := Aside0.mk (show Kd.V k28 28 _ w.heap.size _ (.slice A29 y450.length c29) y450 from Kd.V_mk (by rw [hy29, hc29]; exact Nat.sub_le_sub_right hroom29 _) hr29)
                          have HC454 := Aside0.mk (show y450.length ≤ c29 from by rw [hy29, hc29]; exact Nat.sub_le_sub_right hroom29 _)
                          clear hr29 hC29 hroom29 hi029 hsz29 hc29
                          have KY29 := Aside0.mk hy29
                          have KA29 := Aside0.mk hA29
                          clear hy29 hA29
                          replace q29 := eq_true q29
                          try go_wp2
                          go_roundg kj5
                          case measure => have := HK1.out; have := HJ5.out; omega
                          case rel => exact ⟨(y450), (x1_1), (y445), H', ⟨by have := HK1.out; have := HJ5.out; omega⟩, ⟨by (with_reducible repeat (first | apply Kd.V_alloc | apply Kd.V_drewN | apply Kd.V_drew)); exact Kd.V_mono HO454.out (fun _ hk => ⟨hk.1.1, hk.2⟩)⟩, ⟨by (with_reducible repeat (first | apply Kd.V_alloc | apply Kd.V_drewN | apply Kd.V_drew)); exact Kd.V_mono HO_1.out (fun _ hk => ⟨hk.1.1, hk.2⟩)⟩, ⟨by (with_reducible repeat (first | apply Kd.R_alloc | apply Kd.R_drewN | apply Kd.R_drew)); exact Kd.R_mono HO447.out (fun _ hk => hk.1)⟩, ⟨by repeat (first | (with_reducible first | exact HB.out | apply below_alloc | apply pw_below_drewN | apply below_drew1 | refine below_set ?_ GE444.out) | exact HB.out)⟩⟩
                        · rw [if_neg c19] at H
                          exact absurd H (by simp)
                      · rw [if_neg c18] at H
                        have c18b0 : decide (((rd_T28 x0_1 0).f1) ≤ ((rd_T28 x1_1 0).f1)) = false := decide_eq_false c18
                        clear c18
                        by_cases c30 : 1 ≤ (x1_1.length : Int)
                        · rw [if_pos c30] at H
                          have c30b0 := eq_true c30
                          have c30b1 : decide (1 ≤ (x1_1.length : Int)) = true := decide_eq_true c30
                          clear c30
                          obtain ⟨y455, hy455⟩ : ∃ y_ : List (S28), y_ = (x1_1.drop 1) := ⟨_, rfl⟩
                          replace H : (interval_Intersect.l0 kj5 x0_1 y455 y445) = some (r1, r2) := by first | (rw [hy455]; with_reducible exact H) | (have H2_ := (Option.bind_some _ _).symm.trans H; rw [hy455]; with_reducible exact H2_) | (have H2_ := (Option.bind_some _ _).symm.trans H; with_reducible exact H2_) | with_reducible exact H | (rw [hy455]; exact H) | exact H
                          have Ny455 := Aside0.mk hy455
                          clear hy455
                          have H' := Aside0.mk H
                          clear H
                          try go_wp2
                          have n0_ := Aside0.mk (Kd.V_drew HO_0.out)
                          have n1_ := Aside0.mk (Kd.V_drew HO_1.out)
                          have n2_ := Aside0.mk (Kd.R_drew HO_7.out)
                          have n3_ := Aside0.mk (below_drew1 HB.out)
                          clear HO_0
                          clear HO_1
                          clear HO_7
                          clear HB
                          have HO_0 := n0_
                          have HO_1 := n1_
                          have HO_7 := n2_
                          have HB := n3_
                          clear n0_ n1_ n2_ n3_
                          obtain ⟨Ao32, co32, eo32⟩ := Kd.V_slice HO_0.out
                          (first | subst eo32 | (injection eo32 with f1_ f2_ f3_; have f4_ := f1_.symm; have f5_ := f3_.symm; clear f1_ f2_ f3_; subst f4_; subst f5_))
                          have p440 : 0 ≤ (0 : Int) := (by omega)
                          have q440 : 0 < (x0_1.length : Int) := of_decide_eq_true (by first | (with_reducible assumption) | assumption)
                          obtain ⟨ad440, e440, hx440_0, hx440_1⟩ := at_T28 (Kd.V_reads' HO_0.out).2.2 0 p440 q440
                          cases e440
                          have qi440 : (0 < x0_1.length) = True := eq_true (by omega)
                          (try rw [show ((0 : Int)).toNat = 0 from rfl] at hx440_0)
                          (try rw [show 0 * 2 = 0 from rfl] at hx440_0)
                          (try rw [Addr.add_zero'] at hx440_0)
                          (try rw [show ((0 : Int)).toNat = 0 from rfl] at hx440_1)
                          (try rw [show 0 * 2 = 0 from rfl] at hx440_1)
                          (try rw [Addr.add_zero'] at hx440_1)
                          replace p440 := eq_true p440
                          replace q440 := eq_true q440
                          obtain ⟨Ao33, co33, eo33⟩ := Kd.V_slice HO_1.out
                          (first | subst eo33 | (injection eo33 with f1_ f2_ f3_; have f4_ := f1_.symm; have f5_ := f3_.symm; clear f1_ f2_ f3_; subst f4_; subst f5_))
                          have p441 : 0 ≤ (0 : Int) := (by omega)
                          have q441 : 0 < (x1_1.length : Int) := of_decide_eq_true (by first | (with_reducible assumption) | assumption)
                          obtain ⟨ad441, e441, hx441_0, hx441_1⟩ := at_T28 (Kd.V_reads' HO_1.out).2.2 0 p441 q441
                          cases e441
                          have qi441 : (0 < x1_1.length) = True := eq_true (by omega)
                          (try rw [show ((0 : Int)).toNat = 0 from rfl] at hx441_0)
                          (try rw [show 0 * 2 = 0 from rfl] at hx441_0)
                          (try rw [Addr.add_zero'] at hx441_0)
                          (try rw [show ((0 : Int)).toNat = 0 from rfl] at hx441_1)
                          (try rw [show 0 * 2 = 0 from rfl] at hx441_1)
                          (try rw [Addr.add_zero'] at hx441_1)
                          replace p441 := eq_true p441
                          replace q441 := eq_true q441
                          have p442 : 0 ≤ (0 : Int) := (by omega)
                          have q442 : 0 < (x0_1.length : Int) := of_decide_eq_true (by first | (with_reducible assumption) | assumption)
                          obtain ⟨ad442, e442, hx442_0, hx442_1⟩ := at_T28 (Kd.V_reads' HO_0.out).2.2 0 p442 q442
                          obtain rfl : ad440 = ad442 := (by injection e442)
                          have qi442 : (0 < x0_1.length) = True := eq_true (by omega)
                          (try rw [show ((0 : Int)).toNat = 0 from rfl] at hx442_0)
                          (try rw [show 0 * 2 = 0 from rfl] at hx442_0)
                          (try rw [Addr.add_zero'] at hx442_0)
                          (try rw [show ((0 : Int)).toNat = 0 from rfl] at hx442_1)
                          (try rw [show 0 * 2 = 0 from rfl] at hx442_1)
                          (try rw [Addr.add_zero'] at hx442_1)
                          replace p442 := eq_true p442
                          replace q442 := eq_true q442
                          have p443 : 0 ≤ (0 : Int) := (by omega)
                          have q443 : 0 < (x1_1.length : Int) := of_decide_eq_true (by first | (with_reducible assumption) | assumption)
                          obtain ⟨ad443, e443, hx443_0, hx443_1⟩ := at_T28 (Kd.V_reads' HO_1.out).2.2 0 p443 q443
                          obtain rfl : ad441 = ad443 := (by injection e443)
                          have qi443 : (0 < x1_1.length) = True := eq_true (by omega)
                          (try rw [show ((0 : Int)).toNat = 0 from rfl] at hx443_0)
                          (try rw [show 0 * 2 = 0 from rfl] at hx443_0)
                          (try rw [Addr.add_zero'] at hx443_0)
                          (try rw [show ((0 : Int)).toNat = 0 from rfl] at hx443_1)
                          (try rw [show 0 * 2 = 0 from rfl] at hx443_1)
                          (try rw [Addr.add_zero'] at hx443_1)
                          replace p443 := eq_true p443
                          replace q443 := eq_true q443
                          refine start_ (n := 21) (S := fun w' => w'.cell? ad440 = some (.int .i64 ((rd_T28 x0_1 0).f0)) ∧ w'.cell? ⟨ad440.block, ad440.off + 1, none⟩ = some (.int .i64 ((rd_T28 x0_1 0).f1)) ∧ w'.cell? ad441 = some (.int .i64 ((rd_T28 x1_1 0).f0)) ∧ w'.cell? ⟨ad441.block, ad441.off + 1, none⟩ = some (.int .i64 ((rd_T28 x1_1 0).f1)) ∧ w'.cell? ad440 = some (.int .i64 ((rd_T28 x0_1 0).f0)) ∧ w'.cell? ⟨ad440.block, ad440.off + 1, none⟩ = some (.int .i64 ((rd_T28 x0_1 0).f1)) ∧ w'.cell? ad441 = some (.int .i64 ((rd_T28 x1_1 0).f0)) ∧ w'.cell? ⟨ad441.block, ad441.off + 1, none⟩ = some (.int .i64 ((rd_T28 x1_1 0).f1))) (ds := []) #[false, false, false, false, false, false, false, false, false, false, false, false, false, false, false, false, false, false, false, false, false] (by kernel_rfl) rfl rfl ⟨hx440_0, hx440_1, hx441_0, hx441_1, hx442_0, hx442_1, hx443_0, hx443_1⟩ (fun hHeld => ?_); refine with_tabW interval_Intersect.tab6 interval_Intersect.bits6 (fun HT_ HW_ => ?_)
                          generalize wc.drew = w31 at HO_0 HO_1 HO_7 HB hx440_0 hx440_1 hx441_0 hx441_1 hx442_0 hx442_1 hx443_0 hx443_1 hHeld ⊢
                          refine pure_ (i := 0) (N := some 23) (v := ?_) (a' := ?_) #[true, false, false, false, false, false, false, false, false, false, false, false, false, false, false, false, false, false, false, false, false] rfl rfl (any_of HT_.out (by kernel_rfl)) (fun _ _ _ h => h) (Or.inl ⟨by rfl, ?_⟩) ?_ ?_
                          rotate_left
                          · intro w'
                            go_simp
                            with_reducible rfl
                          rotate_left
                          · simp only [Act.put, List.setIfInBounds_toArray, List.set_cons_zero, List.set_cons_succ, i64_w, i32_w]
                            rfl
                          refine pure_ (i := 1) (N := some 24) (v := ?_) (a' := ?_) #[true, true, false, false, false, false, false, false, false, false, false, false, false, false, false, false, false, false, false, false, false] rfl rfl (any_of HT_.out (by kernel_rfl)) (fun _ _ _ h => h) (Or.inl ⟨by rfl, ?_⟩) ?_ ?_
                          rotate_left
                          · intro w'
                            go_simp
                            with_reducible rfl
                          rotate_left
                          · simp only [Act.put, List.setIfInBounds_toArray, List.set_cons_zero, List.set_cons_succ, i64_w, i32_w]
                            rfl
                          refine pure_ (i := 2) (N := some 25) (v := ?_) (a' := ?_) #[true, true, true, false, false, false, false, false, false, false, false, false, false, false, false, false, false, false, false, false, false] rfl rfl (any_of HT_.out (by kernel_rfl)) (fun _ _ _ h => h) (Or.inl ⟨by rfl, ?_⟩) ?_ ?_
                          rotate_left
                          · intro w'
                            go_simp
                            with_reducible rfl
                          rotate_left
                          · simp only [Act.put, List.setIfInBounds_toArray, List.set_cons_zero, List.set_cons_succ, i64_w, i32_w]
                            rfl
                          refine pure_ (i := 4) (N := some 27) (v := ?_) (a' := ?_) #[true, true, true, false, true, false, false, false, false, false, false, false, false, false, false, false, false, false, false, false, false] rfl rfl (any_of HT_.out (by kernel_rfl)) (fun _ _ _ h => h) (Or.inl ⟨by rfl, ?_⟩) ?_ ?_
                          rotate_left
                          · intro w'
                            go_simp
                            with_reducible rfl
                          rotate_left
                          · simp only [Act.put, List.setIfInBounds_toArray, List.set_cons_zero, List.set_cons_succ, i64_w, i32_w]
                            rfl
                          refine pure_ (i := 5) (N := some 28) (v := ?_) (a' := ?_) #[true, true, true, false, true, true, false, false, false, false, false, false, false, false, false, false, false, false, false, false, false] rfl rfl (any_of HT_.out (by kernel_rfl)) (fun _ _ _ h => h) (Or.inl ⟨by rfl, ?_⟩) ?_ ?_
                          rotate_left
                          · intro w'
                            go_simp
                            with_reducible rfl
                          rotate_left
                          · simp only [Act.put, List.setIfInBounds_toArray, List.set_cons_zero, List.set_cons_succ, i64_w, i32_w]
                            rfl
                          refine pure_ (i := 6) (N := some 29) (v := ?_) (a' := ?_) #[true, true, true, false, true, true, true, false, false, false, false, false, false, false, false, false, false, false, false, false, false] rfl rfl (any_of HT_.out (by kernel_rfl)) (fun _ _ _ h => h) (Or.inl ⟨by rfl, ?_⟩) ?_ ?_
                          rotate_left
                          · intro w'
                            go_simp
                            with_reducible rfl
                          rotate_left
                          · simp only [Act.put, List.setIfInBounds_toArray, List.set_cons_zero, List.set_cons_succ, i64_w, i32_w]
                            rfl
                          refine pure_ (i := 9) (N := some 32) (v := ?_) (a' := ?_) #[true, true, true, false, true, true, true, false, false, true, false, false, false, false, false, false, false, false, false, false, false] rfl rfl (any_of HT_.out (by kernel_rfl)) (fun _ _ _ h => h) (Or.inl ⟨by rfl, ?_⟩) ?_ ?_
                          rotate_left
                          · intro w'
                            go_simp
                            with_reducible rfl
                          rotate_left
                          · simp only [Act.put, List.setIfInBounds_toArray, List.set_cons_zero, List.set_cons_succ, i64_w, i32_w]
                            rfl
                          refine pure_ (i := 10) (N := some 33) (v := ?_) (a' := ?_) #[true, true, true, false, true, true, true, false, false, true, true, false, false, false, false, false, false, false, false, false, false] rfl rfl (any_of HT_.out (by kernel_rfl)) (fun _ _ _ h => h) (Or.inl ⟨by rfl, ?_⟩) ?_ ?_
                          rotate_left
                          · intro w'
                            go_simp
                            with_reducible rfl
                          rotate_left
                          · simp only [Act.put, List.setIfInBounds_toArray, List.set_cons_zero, List.set_cons_succ, i64_w, i32_w]
                            rfl
                          refine pure_ (i := 11) (N := some 34) (v := ?_) (a' := ?_) #[true, true, true, false, true, true, true, false, false, true, true, true, false, false, false, false, false, false, false, false, false] rfl rfl (any_of HT_.out (by kernel_rfl)) (fun _ _ _ h => h) (Or.inl ⟨by rfl, ?_⟩) ?_ ?_
                          rotate_left
                          · intro w'
                            go_simp
                            with_reducible rfl
                          rotate_left
                          · simp only [Act.put, List.setIfInBounds_toArray, List.set_cons_zero, List.set_cons_succ, i64_w, i32_w]
                            rfl
                          refine pure_ (i := 13) (N := some 36) (v := ?_) (a' := ?_) #[true, true, true, false, true, true, true, false, false, true, true, true, false, true, false, false, false, false, false, false, false] rfl rfl (any_of HT_.out (by kernel_rfl)) (fun _ _ _ h => h) (Or.inl ⟨by rfl, ?_⟩) ?_ ?_
                          rotate_left
                          · intro w'
                            go_simp
                            with_reducible rfl
                          rotate_left
                          · simp only [Act.put, List.setIfInBounds_toArray, List.set_cons_zero, List.set_cons_succ, i64_w, i32_w]
                            rfl
                          refine pure_ (i := 14) (N := some 37) (v := ?_) (a' := ?_) #[true, true, true, false, true, true, true, false, false, true, true, true, false, true, true, false, false, false, false, false, false] rfl rfl (any_of HT_.out (by kernel_rfl)) (fun _ _ _ h => h) (Or.inl ⟨by rfl, ?_⟩) ?_ ?_
                          rotate_left
                          · intro w'
                            go_simp
                            with_reducible rfl
                          rotate_left
                          · simp only [Act.put, List.setIfInBounds_toArray, List.set_cons_zero, List.set_cons_succ, i64_w, i32_w]
                            rfl
                          refine pure_ (i := 15) (N := some 38) (v := ?_) (a' := ?_) #[true, true, true, false, true, true, true, false, false, true, true, true, false, true, true, true, false, false, false, false, false] rfl rfl (any_of HT_.out (by kernel_rfl)) (fun _ _ _ h => h) (Or.inl ⟨by rfl, ?_⟩) ?_ ?_
                          rotate_left
                          · intro w'
                            go_simp
                            with_reducible rfl
                          rotate_left
                          · simp only [Act.put, List.setIfInBounds_toArray, List.set_cons_zero, List.set_cons_succ, i64_w, i32_w]
                            rfl
                          refine take_ (i := 3) (N := some 26) (v := ?_) (a' := ?_) #[true, true, true, true, true, true, true, false, false, true, true, true, false, true, true, true, false, false, false, false, false] rfl rfl (take_ofW HT_.out HW_.out (by kernel_rfl)) (fun _ _ _ h => h) (Or.inl ⟨by rfl, ?_⟩) hHeld ?_ ?_
                          rotate_left
                          · rintro w' ⟨s0, s1, s2, s3, s4, s5, s6, s7⟩
                            go_simp
                            with_reducible rfl
                          rotate_left
                          · simp only [Act.put, List.setIfInBounds_toArray, List.set_cons_zero, List.set_cons_succ, i64_w, i32_w]
                            rfl
                          refine take_ (i := 7) (N := some 30) (v := ?_) (a' := ?_) #[true, true, true, true, true, true, true, true, false, true, true, true, false, true, true, true, false, false, false, false, false] rfl rfl (take_ofW HT_.out HW_.out (by kernel_rfl)) (fun _ _ _ h => h) (Or.inl ⟨by rfl, ?_⟩) hHeld ?_ ?_
                          rotate_left
                          · rintro w' ⟨s0, s1, s2, s3, s4, s5, s6, s7⟩
                            go_simp
                            with_reducible rfl
                          rotate_left
                          · simp only [Act.put, List.setIfInBounds_toArray, List.set_cons_zero, List.set_cons_succ, i64_w, i32_w]
                            rfl
                          refine pure_ (i := 8) (N := some 31) (v := ?_) (a' := ?_) #[true, true, true, true, true, true, true, true, true, true, true, true, false, true, true, true, false, false, false, false, false] rfl rfl (any_of HT_.out (by kernel_rfl)) (fun _ _ _ h => h) (Or.inl ⟨by rfl, ?_⟩) ?_ ?_
                          rotate_left
                          · intro w'
                            go_simp
                            with_reducible rfl
                          rotate_left
                          · simp only [Act.put, List.setIfInBounds_toArray, List.set_cons_zero, List.set_cons_succ, i64_w, i32_w]
                            rfl
                          refine take_ (i := 12) (N := some 35) (v := ?_) (a' := ?_) #[true, true, true, true, true, true, true, true, true, true, true, true, true, true, true, true, false, false, false, false, false] rfl rfl (take_ofW HT_.out HW_.out (by kernel_rfl)) (fun _ _ _ h => h) (Or.inl ⟨by rfl, ?_⟩) hHeld ?_ ?_
                          rotate_left
                          · rintro w' ⟨s0, s1, s2, s3, s4, s5, s6, s7⟩
                            go_simp
                            with_reducible rfl
                          rotate_left
                          · simp only [Act.put, List.setIfInBounds_toArray, List.set_cons_zero, List.set_cons_succ, i64_w, i32_w]
                            rfl
                          refine take_ (i := 16) (N := some 39) (v := ?_) (a' := ?_) #[true, true, true, true, true, true, true, true, true, true, true, true, true, true, true, true, true, false, false, false, false] rfl rfl (take_ofW HT_.out HW_.out (by kernel_rfl)) (fun _ _ _ h => h) (Or.inl ⟨by rfl, ?_⟩) hHeld ?_ ?_
                          rotate_left
                          · rintro w' ⟨s0, s1, s2, s3, s4, s5, s6, s7⟩
                            go_simp
                            with_reducible rfl
                          rotate_left
                          · simp only [Act.put, List.setIfInBounds_toArray, List.set_cons_zero, List.set_cons_succ, i64_w, i32_w]
                            rfl
                          refine pure_ (i := 17) (N := some 40) (v := ?_) (a' := ?_) #[true, true, true, true, true, true, true, true, true, true, true, true, true, true, true, true, true, true, false, false, false] rfl rfl (any_of HT_.out (by kernel_rfl)) (fun _ _ _ h => h) (Or.inl ⟨by rfl, ?_⟩) ?_ ?_
                          rotate_left
                          · intro w'
                            go_simp
                            with_reducible rfl
                          rotate_left
                          · simp only [Act.put, List.setIfInBounds_toArray, List.set_cons_zero, List.set_cons_succ, i64_w, i32_w]
                            rfl
                          refine pure_ (i := 18) (N := some 41) (v := ?_) (a' := ?_) #[true, true, true, true, true, true, true, true, true, true, true, true, true, true, true, true, true, true, true, false, false] rfl rfl (any_of HT_.out (by kernel_rfl)) (fun _ _ _ h => h) (Or.inl ⟨by rfl, ?_⟩) ?_ ?_
                          rotate_left
                          · intro w'
                            go_simp
                            with_reducible rfl
                          rotate_left
                          · simp only [Act.put, List.setIfInBounds_toArray, List.set_cons_zero, List.set_cons_succ, i64_w, i32_w]
                            rfl
                          refine one_ (i := 19) (N := some 8) #[true, true, true, true, true, true, true, true, true, true, true, true, true, true, true, true, true, true, true, true, false] rfl rfl (one_of HT_.out (by kernel_rfl)) (by decide) (fun K hK => ?_)
                          refine box_step ?hg (N := 8) ?hd (cs := #[.int .i64 0, .int .i64 0]) (t := 28) ?hr ?_; (case hd => rfl); (case hg => rfl); (case hr => first | (go_simp; done) | (go_simp; rfl))
                          intro gb444 hg w34 hbox hb
                          have HS0_ := (hb.cell (World.block_lt_of_cell? _ _ (hHeld.1))).trans (hHeld.1)
                          have HS1_ := (hb.cell (World.block_lt_of_cell? _ _ (hHeld.2.1))).trans (hHeld.2.1)
                          have HS2_ := (hb.cell (World.block_lt_of_cell? _ _ (hHeld.2.2.1))).trans (hHeld.2.2.1)
                          have HS3_ := (hb.cell (World.block_lt_of_cell? _ _ (hHeld.2.2.2.1))).trans (hHeld.2.2.2.1)
                          have HS4_ := (hb.cell (World.block_lt_of_cell? _ _ (hHeld.2.2.2.2.1))).trans (hHeld.2.2.2.2.1)
                          have HS5_ := (hb.cell (World.block_lt_of_cell? _ _ (hHeld.2.2.2.2.2.1))).trans (hHeld.2.2.2.2.2.1)
                          have HS6_ := (hb.cell (World.block_lt_of_cell? _ _ (hHeld.2.2.2.2.2.2.1))).trans (hHeld.2.2.2.2.2.2.1)
                          have HS7_ := (hb.cell (World.block_lt_of_cell? _ _ (hHeld.2.2.2.2.2.2.2))).trans (hHeld.2.2.2.2.2.2.2)
                          have n0_ := Aside0.mk (Kd.V_below (Kd.V_elderB (by (with_reducible repeat (first | apply Kd.V_alloc | apply Kd.V_drewN | apply Kd.V_drew)); exact HO_0.out) gb444 (Nat.le_of_eq hg.symm)) hb)
                          have n1_ := Aside0.mk (Kd.V_below (Kd.V_elderB (by (with_reducible repeat (first | apply Kd.V_alloc | apply Kd.V_drewN | apply Kd.V_drew)); exact HO_1.out) gb444 (Nat.le_of_eq hg.symm)) hb)
                          have n2_ := Aside0.mk (Kd.R_below (Kd.R_elderB (by (with_reducible repeat (first | apply Kd.R_alloc | apply Kd.R_drewN | apply Kd.R_drew)); exact HO_7.out) gb444 (Nat.le_of_eq hg.symm)) hb)
                          have n3_ := Aside0.mk (below_step (by repeat (first | (with_reducible first | exact HB.out | apply below_alloc | apply pw_below_drewN | apply below_drew1) | exact HB.out)) hb)
                          have n4_ := Aside0.mk (hbox)
                          have n5_ := Aside0.mk ((by rw [hg]; exact (below_size (by repeat (first | (with_reducible first | exact HB.out | apply below_alloc | apply pw_below_drewN | apply below_drew1) | exact HB.out))) : w.heap.size ≤ gb444))
                          have n6_ := Aside0.mk ((by rw [hg]; exact (below_size (by repeat (first | (with_reducible first | exact HB.out | apply below_alloc | apply pw_below_drewN | apply below_drew1) | exact HB.out))) : w.heap.size ≤ gb444))
                          clear HO_0
                          clear HO_1
                          clear HO_7
                          clear HB
                          have HO_0 := n0_
                          have HO_1 := n1_
                          have HO_7 := n2_
                          have HB := n3_
                          have BK444 := n4_
                          have GW444 := n5_
                          have GE444 := n6_
                          clear n0_ n1_ n2_ n3_ n4_ n5_ n6_
                          clear hb hbox hg
                          refine hK.out _ _ ⟨HS0_, HS1_, HS2_, HS3_, HS4_, HS5_, HS6_, HS7_⟩ (fun hHeld => ?_)
                          clear hK K
                          refine norm_ (a' := ?_) ?_ ?_
                          rotate_left
                          · show Act.put _ (some 8) _ = _
                            simp only [Act.put, List.setIfInBounds_toArray, List.set_cons_zero, List.set_cons_succ, i64_w, i32_w]
                            rfl
                          refine one_ (i := 20) (N := none) #[true, true, true, true, true, true, true, true, true, true, true, true, true, true, true, true, true, true, true, true, true] rfl rfl (one_of HT_.out (by kernel_rfl)) (by decide) (fun K hK => ?_)
                          have hs35 : w34.cell? ⟨gb444, 0, none⟩ = some (.int .i64 0) := (blk_cell BK444.out 0).trans rfl
                          have hfs35 := blk_frozen BK444.out 0
                          have hs36 : w34.cell? ⟨gb444, 1, none⟩ = some (.int .i64 0) := (blk_cell BK444.out 1).trans rfl
                          have hfs36 := blk_frozen BK444.out 1
                          refine skip_ (w1 := ?_) (by rfl) rfl ?_ ?_
                          rotate_left
                          · go_simp
                            rfl
                          have hne0_ : ad440.block ≠ gb444 := (V_block HO_0.out (of_decide_eq_true (by assumption)) (by decide)).2; have hne1_ : ad441.block ≠ gb444 := (V_block HO_1.out (of_decide_eq_true (by assumption)) (by decide)).2; refine hK.out _ _ ⟨((cell_far (p := ⟨gb444, _, none⟩) (by exact hne0_) _).trans (((cell_far (p := ⟨gb444, _, none⟩) (by exact hne0_) _).trans (hHeld.1)))), ((cell_far (p := ⟨gb444, _, none⟩) (by exact hne0_) _).trans (((cell_far (p := ⟨gb444, _, none⟩) (by exact hne0_) _).trans (hHeld.2.1)))), ((cell_far (p := ⟨gb444, _, none⟩) (by exact hne1_) _).trans (((cell_far (p := ⟨gb444, _, none⟩) (by exact hne1_) _).trans (hHeld.2.2.1)))), ((cell_far (p := ⟨gb444, _, none⟩) (by exact hne1_) _).trans (((cell_far (p := ⟨gb444, _, none⟩) (by exact hne1_) _).trans (hHeld.2.2.2.1)))), ((cell_far (p := ⟨gb444, _, none⟩) (by exact hne0_) _).trans (((cell_far (p := ⟨gb444, _, none⟩) (by exact hne0_) _).trans (hHeld.2.2.2.2.1)))), ((cell_far (p := ⟨gb444, _, none⟩) (by exact hne0_) _).trans (((cell_far (p := ⟨gb444, _, none⟩) (by exact hne0_) _).trans (hHeld.2.2.2.2.2.1)))), ((cell_far (p := ⟨gb444, _, none⟩) (by exact hne1_) _).trans (((cell_far (p := ⟨gb444, _, none⟩) (by exact hne1_) _).trans (hHeld.2.2.2.2.2.2.1)))), ((cell_far (p := ⟨gb444, _, none⟩) (by exact hne1_) _).trans (((cell_far (p := ⟨gb444, _, none⟩) (by exact hne1_) _).trans (hHeld.2.2.2.2.2.2.2))))⟩ (fun hHeld => ?_)
                          clear hK K
                          refine done_ (done_of HT_.out (by kernel_rfl)) ?_
                          have hcz37_0 : w34.cell? ⟨gb444, 0, none⟩ = some (.int .i64 0) := (blk_cell BK444.out 0).trans rfl
                          have hcz37_1 : w34.cell? ⟨gb444, 1, none⟩ = some (.int .i64 0) := (blk_cell BK444.out 1).trans rfl
                          have hfz37_0 := blk_frozen BK444.out 0
                          have hfz37_1 := blk_frozen BK444.out 1
                          try go_wp2_with (first | ((with_reducible refine gate_builtin (b := .append) (xs := #[.tmp 47, .tmp 49]) rfl ?_); (try (refine gate_guard (by rfl) ?_; dsimp only)); at_builtin; refine Kd.R_append k28 (w0 := w) w.heap.size rfl (.tmp 47) (.tmp 49) 22 28 (.agg #[(.int .i64 0), (.int .i64 0)]) 16 rfl Try.underlying22 info28 rfl (by decide) (by omega) u7 x7_1 (⟨ji14, ji15⟩ : S28) [.int .i64 ji14, .int .i64 ji15] (fun k_ => (w.heap.size ≤ k_) ∧ k_ ≠ gb444) (fun _ => False) rfl (by first | (go_simp; done) | (go_simp; rfl)) ?aP (fun _ hk => hk.elim) ?aF ?aO ?aB ?aS ?aL ?_; (case aP => exact k28_mkM _ _ _ (⟨ji14, ji15⟩ : S28)); (case aB => exact (by repeat (first | (with_reducible first | exact HB.out | apply below_alloc | apply pw_below_drewN | apply below_drew1 | refine below_set ?_ GE444.out) | exact HB.out))); (case aF => exact (fun k_ hk => ⟨(Nat.le_trans (below_size (by repeat (first | (with_reducible first | exact HB.out | apply below_alloc | apply pw_below_drewN | apply below_drew1 | refine below_set ?_ GE444.out) | exact HB.out))) hk), Kd.freshB (g := gb444) (o := .cells #[.int .i64 ji14, .int .i64 ji15] 28 (0, 0)) (by (with_reducible repeat (first | refine blk_drewN ?_ _ | refine blk_drew ?_ | refine blk_alloc ?_ _)); refine blk_put (cs := #[.int .i64 ji14, .int .i64 0]) ?_ 1 _ rfl; (with_reducible repeat (first | refine blk_drewN ?_ _ | refine blk_drew ?_ | refine blk_alloc ?_ _)); refine blk_put (cs := #[.int .i64 0, .int .i64 0]) ?_ 0 _ rfl; (with_reducible repeat (first | refine blk_drewN ?_ _ | refine blk_drew ?_ | refine blk_alloc ?_ _)); exact BK444.out) k_ hk⟩)); (case aO => exact (by (with_reducible repeat (first | apply Kd.R_alloc | apply Kd.R_drewN | apply Kd.R_drew)); exact Kd.R_mono (Kd.R_far (p := ⟨gb444, 1, none⟩) (Kd.R_far (p := ⟨gb444, 0, none⟩) (Kd.R_mono HO_7.out (fun k_ hk => (⟨hk, hk.2⟩ : _ ∧ k_ ≠ gb444))) (fun _ hk => hk.2) (.int .i64 ji14)) (fun _ hk => hk.2) (.int .i64 ji15)) (fun _ hk => ⟨hk.1.1, hk.1.2⟩))); (case aS => exact (below_size (by repeat (first | (with_reducible first | exact HB.out | apply below_alloc | apply pw_below_drewN | apply below_drew1 | refine below_set ?_ GE444.out) | exact HB.out)))); (case aL => have := LMc17.out; omega); intro v446 w38 ho hb hg hat; rw [← Ny445.out] at ho; have n0_ := Aside0.mk (Kd.V_afterv (ok := (fun k_ => ((P0_ k_ ∨ P1_ k_) ∨ w.heap.size ≤ k_) ∧ k_ ≠ gb444)) (by (with_reducible repeat (first | apply Kd.V_alloc | apply Kd.V_drewN | apply Kd.V_drew)); exact Kd.V_mono (Kd.V_far (p := ⟨gb444, 1, none⟩) (Kd.V_far (p := ⟨gb444, 0, none⟩) (Kd.V_mono HO_0.out (fun k_ hk => (⟨hk, hk.2⟩ : _ ∧ k_ ≠ gb444))) (fun _ hk => hk.2) (.int .i64 ji14)) (fun _ hk => hk.2) (.int .i64 ji15)) (fun _ hk => ⟨⟨hk.1.1.1, hk.1.2⟩, hk.1.1.2⟩)) hg hat); have n1_ := Aside0.mk (Kd.V_afterv (ok := (fun k_ => ((P0_ k_ ∨ P1_ k_) ∨ w.heap.size ≤ k_) ∧ k_ ≠ gb444)) (by (with_reducible repeat (first | apply Kd.V_alloc | apply Kd.V_drewN | apply Kd.V_drew)); exact Kd.V_mono (Kd.V_far (p := ⟨gb444, 1, none⟩) (Kd.V_far (p := ⟨gb444, 0, none⟩) (Kd.V_mono HO_1.out (fun k_ hk => (⟨hk, hk.2⟩ : _ ∧ k_ ≠ gb444))) (fun _ hk => hk.2) (.int .i64 ji14)) (fun _ hk => hk.2) (.int .i64 ji15)) (fun _ hk => ⟨⟨hk.1.1.1, hk.1.2⟩, hk.1.1.2⟩)) hg hat); have n2_ := Aside0.mk (blk_grown (g := gb444) (o := .cells #[.int .i64 ji14, .int .i64 ji15] 28 (0, 0)) (by (with_reducible repeat (first | refine blk_drewN ?_ _ | refine blk_drew ?_ | refine blk_alloc ?_ _)); refine blk_put (cs := #[.int .i64 ji14, .int .i64 0]) ?_ 1 _ rfl; (with_reducible repeat (first | refine blk_drewN ?_ _ | refine blk_drew ?_ | refine blk_alloc ?_ _)); refine blk_put (cs := #[.int .i64 0, .int .i64 0]) ?_ 0 _ rfl; (with_reducible repeat (first | refine blk_drewN ?_ _ | refine blk_drew ?_ | refine blk_alloc ?_ _)); exact BK444.out) hg (Kd.R_away HO_7.out (fun _ hk => hk.2))); have n3_ := Aside0.mk (hb); have n4_ := Aside0.mk (ho); clear HO_0; clear HO_1; clear BK444; clear HB; clear HO_7; have HO_0 := n0_; have HO_1 := n1_; have BK444 := n2_; have HB := n3_; have HO447 := n4_; clear n0_ n1_ n2_ n3_ n4_; clear ho hb hg hat))
                          have n0_ := Aside0.mk (Kd.V_drew HO_0.out)
                          have n1_ := Aside0.mk (Kd.V_drew HO_1.out)
                          have n2_ := Aside0.mk (Kd.R_drew HO447.out)
                          have n3_ := Aside0.mk (blk_drew BK444.out)
                          have n4_ := Aside0.mk (below_drew1 HB.out)
                          clear HO_0
                          clear HO_1
                          clear HO447
                          clear BK444
                          clear HB
                          have HO_0 := n0_
                          have HO_1 := n1_
                          have HO447 := n2_
                          have BK444 := n3_
                          have HB := n4_
                          clear n0_ n1_ n2_ n3_ n4_
                          have p448 : 0 ≤ (0 : Int) := (by omega)
                          have q448 : 0 < (x0_1.length : Int) := of_decide_eq_true (by first | (with_reducible assumption) | assumption)
                          obtain ⟨ad448, e448, hx448_0, hx448_1⟩ := at_T28 (Kd.V_reads' HO_0.out).2.2 0 p448 q448
                          obtain rfl : ad440 = ad448 := (by injection e448)
                          have qi448 : (0 < x0_1.length) = True := eq_true (by omega)
                          (try rw [show ((0 : Int)).toNat = 0 from rfl] at hx448_0)
                          (try rw [show 0 * 2 = 0 from rfl] at hx448_0)
                          (try rw [Addr.add_zero'] at hx448_0)
                          (try rw [show ((0 : Int)).toNat = 0 from rfl] at hx448_1)
                          (try rw [show 0 * 2 = 0 from rfl] at hx448_1)
                          (try rw [Addr.add_zero'] at hx448_1)
                          replace p448 := eq_true p448
                          replace q448 := eq_true q448
                          have p449 : 0 ≤ (0 : Int) := (by omega)
                          have q449 : 0 < (x1_1.length : Int) := of_decide_eq_true (by first | (with_reducible assumption) | assumption)
                          obtain ⟨ad449, e449, hx449_0, hx449_1⟩ := at_T28 (Kd.V_reads' HO_1.out).2.2 0 p449 q449
                          obtain rfl : ad441 = ad449 := (by injection e449)
                          have qi449 : (0 < x1_1.length) = True := eq_true (by omega)
                          (try rw [show ((0 : Int)).toNat = 0 from rfl] at hx449_0)
                          (try rw [show 0 * 2 = 0 from rfl] at hx449_0)
                          (try rw [Addr.add_zero'] at hx449_0)
                          (try rw [show ((0 : Int)).toNat = 0 from rfl] at hx449_1)
                          (try rw [show 0 * 2 = 0 from rfl] at hx449_1)
                          (try rw [Addr.add_zero'] at hx449_1)
                          replace p449 := eq_true p449
                          replace q449 := eq_true q449
                          refine start_ (n := 9) (S := fun w' => w'.cell? ad440 = some (.int .i64 ((rd_T28 x0_1 0).f0)) ∧ w'.cell? ⟨ad440.block, ad440.off + 1, none⟩ = some (.int .i64 ((rd_T28 x0_1 0).f1)) ∧ w'.cell? ad441 = some (.int .i64 ((rd_T28 x1_1 0).f0)) ∧ w'.cell? ⟨ad441.block, ad441.off + 1, none⟩ = some (.int .i64 ((rd_T28 x1_1 0).f1))) (ds := []) #[false, false, false, false, false, false, false, false, false] (by kernel_rfl) rfl rfl ⟨hx448_0, hx448_1, hx449_0, hx449_1⟩ (fun hHeld => ?_); refine with_tabW interval_Intersect.tab9 interval_Intersect.bits9 (fun HT_ HW_ => ?_)
                          generalize w38.drew = w39 at HO_0 HO_1 HO447 BK444 HB hx448_0 hx448_1 hx449_0 hx449_1 hHeld ⊢
                          refine pure_ (i := 0) (N := some 51) (v := ?_) (a' := ?_) #[true, false, false, false, false, false, false, false, false] rfl rfl (any_of HT_.out (by kernel_rfl)) (fun _ _ _ h => h) (Or.inl ⟨by rfl, ?_⟩) ?_ ?_
                          rotate_left
                          · intro w'
                            go_simp
                            with_reducible rfl
                          rotate_left
                          · simp only [Act.put, List.setIfInBounds_toArray, List.set_cons_zero, List.set_cons_succ, i64_w, i32_w]
                            rfl
                          refine pure_ (i := 1) (N := some 52) (v := ?_) (a' := ?_) #[true, true, false, false, false, false, false, false, false] rfl rfl (any_of HT_.out (by kernel_rfl)) (fun _ _ _ h => h) (Or.inl ⟨by rfl, ?_⟩) ?_ ?_
                          rotate_left
                          · intro w'
                            go_simp
                            with_reducible rfl
                          rotate_left
                          · simp only [Act.put, List.setIfInBounds_toArray, List.set_cons_zero, List.set_cons_succ, i64_w, i32_w]
                            rfl
                          refine pure_ (i := 2) (N := some 53) (v := ?_) (a' := ?_) #[true, true, true, false, false, false, false, false, false] rfl rfl (any_of HT_.out (by kernel_rfl)) (fun _ _ _ h => h) (Or.inl ⟨by rfl, ?_⟩) ?_ ?_
                          rotate_left
                          · intro w'
                            go_simp
                            with_reducible rfl
                          rotate_left
                          · simp only [Act.put, List.setIfInBounds_toArray, List.set_cons_zero, List.set_cons_succ, i64_w, i32_w]
                            rfl
                          refine pure_ (i := 4) (N := some 55) (v := ?_) (a' := ?_) #[true, true, true, false, true, false, false, false, false] rfl rfl (any_of HT_.out (by kernel_rfl)) (fun _ _ _ h => h) (Or.inl ⟨by rfl, ?_⟩) ?_ ?_
                          rotate_left
                          · intro w'
                            go_simp
                            with_reducible rfl
                          rotate_left
                          · simp only [Act.put, List.setIfInBounds_toArray, List.set_cons_zero, List.set_cons_succ, i64_w, i32_w]
                            rfl
                          refine pure_ (i := 5) (N := some 56) (v := ?_) (a' := ?_) #[true, true, true, false, true, true, false, false, false] rfl rfl (any_of HT_.out (by kernel_rfl)) (fun _ _ _ h => h) (Or.inl ⟨by rfl, ?_⟩) ?_ ?_
                          rotate_left
                          · intro w'
                            go_simp
                            with_reducible rfl
                          rotate_left
                          · simp only [Act.put, List.setIfInBounds_toArray, List.set_cons_zero, List.set_cons_succ, i64_w, i32_w]
                            rfl
                          refine pure_ (i := 6) (N := some 57) (v := ?_) (a' := ?_) #[true, true, true, false, true, true, true, false, false] rfl rfl (any_of HT_.out (by kernel_rfl)) (fun _ _ _ h => h) (Or.inl ⟨by rfl, ?_⟩) ?_ ?_
                          rotate_left
                          · intro w'
                            go_simp
                            with_reducible rfl
                          rotate_left
                          · simp only [Act.put, List.setIfInBounds_toArray, List.set_cons_zero, List.set_cons_succ, i64_w, i32_w]
                            rfl
                          refine take_ (i := 3) (N := some 54) (v := ?_) (a' := ?_) #[true, true, true, true, true, true, true, false, false] rfl rfl (take_ofW HT_.out HW_.out (by kernel_rfl)) (fun _ _ _ h => h) (Or.inl ⟨by rfl, ?_⟩) hHeld ?_ ?_
                          rotate_left
                          · rintro w' ⟨s0, s1, s2, s3⟩
                            go_simp
                            with_reducible rfl
                          rotate_left
                          · simp only [Act.put, List.setIfInBounds_toArray, List.set_cons_zero, List.set_cons_succ, i64_w, i32_w]
                            rfl
                          refine take_ (i := 7) (N := some 58) (v := ?_) (a' := ?_) #[true, true, true, true, true, true, true, true, false] rfl rfl (take_ofW HT_.out HW_.out (by kernel_rfl)) (fun _ _ _ h => h) (Or.inl ⟨by rfl, ?_⟩) hHeld ?_ ?_
                          rotate_left
                          · rintro w' ⟨s0, s1, s2, s3⟩
                            go_simp
                            with_reducible rfl
                          rotate_left
                          · simp only [Act.put, List.setIfInBounds_toArray, List.set_cons_zero, List.set_cons_succ, i64_w, i32_w]
                            rfl
                          refine pure_ (i := 8) (N := some 59) (v := ?_) (a' := ?_) #[true, true, true, true, true, true, true, true, true] rfl rfl (any_of HT_.out (by kernel_rfl)) (fun _ _ _ h => h) (Or.inl ⟨by rfl, ?_⟩) ?_ ?_
                          rotate_left
                          · intro w'
                            go_simp
                            with_reducible rfl
                          rotate_left
                          · simp only [Act.put, List.setIfInBounds_toArray, List.set_cons_zero, List.set_cons_succ, i64_w, i32_w]
                            rfl
                          refine done_ (done_of HT_.out (by kernel_rfl)) ?_
                          have q40 : (1 : Int) ≤ ((x1_1.length : Int) : Int) := of_decide_eq_true (by first | (with_reducible assumption) | assumption)
                          obtain ⟨i040, hi040, _, hsz40, _⟩ := info_parts info28
                          have hroom40 : x1_1.length ≤ co33 := (Kd.V_reads' HO_1.out).2.1
                          have hC40 : Kd.F k28 _ _ (some ad441) x1_1.length x1_1 := (Kd.V_at (base := w.heap.size) HO_1.out).2.2
                          have hcut40 := cut_from (P := Try.prog) 22 28 .i64 Try.underlying22 hi040 2 hsz40 (some ad441) x1_1.length co33 1 (by omega) q40
                          have hr40 := Kd.F_cut (m := (1 : Int).toNat) (c := co33) hC40 (by omega) hroom40
                          obtain ⟨A40, hA40⟩ : ∃ A1, A1 = (if co33 = (1 : Int).toNat then (some ad441) else ((some ad441) : Option Addr).map (·.add ((1 : Int).toNat * 2))) := ⟨_, rfl⟩
                          obtain ⟨c40, hc40⟩ : ∃ c1, c1 = co33 - (1 : Int).toNat := ⟨_, rfl⟩
                          have hy40 : y455.length = x1_1.length - (1 : Int).toNat := (by rw [Ny455.out, List.length_drop] <;> omega)
                          rw [show (x1_1).drop (1 : Int).toNat = y455 from Ny455.out.symm] at hr40
                          replace hr40 : Kd.F k28 _ _ A40 y455.length y455 := (by rw [hA40]; exact hr40)
                          rw [← hy40, ← hA40, ← hc40] at hcut40
                          have HO459 := Aside0.mk (show Kd.V k28 28 _ w.heap.size _ (.slice A40 y455.length c40) y455 from Kd.V_mk (by rw [hy40, hc40]; exact Nat.sub_le_sub_right hroom40 _) hr40)
                          have HC459 := Aside0.mk (show y455.length ≤ c40 from by rw [hy40, hc40]; exact Nat.sub_le_sub_right hroom40 _)
                          clear hr40 hC40 hroom40 hi040 hsz40 hc40
                          have KY40 := Aside0.mk hy40
                          have KA40 := Aside0.mk hA40
                          clear hy40 hA40
                          replace q40 := eq_true q40
                          try go_wp2
                          go_roundg kj5
                          case measure => have := HK1.out; have := HJ5.out; omega
                          case rel => exact ⟨(x0_1), (y455), (y445), H', ⟨by have := HK1.out; have := HJ5.out; omega⟩, ⟨by (with_reducible repeat (first | apply Kd.V_alloc | apply Kd.V_drewN | apply Kd.V_drew)); exact Kd.V_mono HO_0.out (fun _ hk => ⟨hk.1.1, hk.2⟩)⟩, ⟨by (with_reducible repeat (first | apply Kd.V_alloc | apply Kd.V_drewN | apply Kd.V_drew)); exact Kd.V_mono HO459.out (fun _ hk => ⟨hk.1.1, hk.2⟩)⟩, ⟨by (with_reducible repeat (first | apply Kd.R_alloc | apply Kd.R_drewN | apply Kd.R_drew)); exact Kd.R_mono HO447.out (fun _ hk => hk.1)⟩, ⟨by repeat (first | (with_reducible first | exact HB.out | apply below_alloc | apply pw_below_drewN | apply below_drew1 | refine below_set ?_ GE444.out) | exact HB.out)⟩⟩
                        · rw [if_neg c30] at H
                          exact absurd H (by simp)
                    · rw [if_neg c17] at H
                      exact absurd H (by simp)
                  · rw [if_neg c16] at H
                    have c16b0 : decide ((ji14) < (ji15)) = false := decide_eq_false c16
                    clear c16
                    by_cases c41 : ((rd_T28 x0_1 0).f1) ≤ ((rd_T28 x1_1 0).f1)
                    · rw [if_pos c41] at H
                      have c41b0 : decide (((rd_T28 x0_1 0).f1) ≤ ((rd_T28 x1_1 0).f1)) = true := decide_eq_true c41
                      clear c41
                      by_cases c42 : 1 ≤ (x0_1.length : Int)
                      · rw [if_pos c42] at H
                        have c42b0 := eq_true c42
                        have c42b1 : decide (1 ≤ (x0_1.length : Int)) = true := decide_eq_true c42
                        clear c42
                        obtain ⟨y462, hy462⟩ : ∃ y_ : List (S28), y_ = (x0_1.drop 1) := ⟨_, rfl⟩
                        replace H : (interval_Intersect.l0 kj5 y462 x1_1 x7_1) = some (r1, r2) := by first | (rw [hy462]; with_reducible exact H) | (have H2_ := (Option.bind_some _ _).symm.trans H; rw [hy462]; with_reducible exact H2_) | (have H2_ := (Option.bind_some _ _).symm.trans H; with_reducible exact H2_) | with_reducible exact H | (rw [hy462]; exact H) | exact H
                        have Ny462 := Aside0.mk hy462
                        clear hy462
                        have H' := Aside0.mk H
                        clear H
                        try go_wp2
                        have n0_ := Aside0.mk (Kd.V_drew HO_0.out)
                        have n1_ := Aside0.mk (Kd.V_drew HO_1.out)
                        have n2_ := Aside0.mk (Kd.R_drew HO_7.out)
                        have n3_ := Aside0.mk (below_drew1 HB.out)
                        clear HO_0
                        clear HO_1
                        clear HO_7
                        clear HB
                        have HO_0 := n0_
                        have HO_1 := n1_
                        have HO_7 := n2_
                        have HB := n3_
                        clear n0_ n1_ n2_ n3_
                        obtain ⟨Ao44, co44, eo44⟩ := Kd.V_slice HO_0.out
                        (first | subst eo44 | (injection eo44 with f1_ f2_ f3_; have f4_ := f1_.symm; have f5_ := f3_.symm; clear f1_ f2_ f3_; subst f4_; subst f5_))
                        have p440 : 0 ≤ (0 : Int) := (by omega)
                        have q440 : 0 < (x0_1.length : Int) := of_decide_eq_true (by first | (with_reducible assumption) | assumption)
                        obtain ⟨ad440, e440, hx440_0, hx440_1⟩ := at_T28 (Kd.V_reads' HO_0.out).2.2 0 p440 q440
                        cases e440
                        have qi440 : (0 < x0_1.length) = True := eq_true (by omega)
                        (try rw [show ((0 : Int)).toNat = 0 from rfl] at hx440_0)
                        (try rw [show 0 * 2 = 0 from rfl] at hx440_0)
                        (try rw [Addr.add_zero'] at hx440_0)
                        (try rw [show ((0 : Int)).toNat = 0 from rfl] at hx440_1)
                        (try rw [show 0 * 2 = 0 from rfl] at hx440_1)
                        (try rw [Addr.add_zero'] at hx440_1)
                        replace p440 := eq_true p440
                        replace q440 := eq_true q440
                        obtain ⟨Ao45, co45, eo45⟩ := Kd.V_slice HO_1.out
                        (first | subst eo45 | (injection eo45 with f1_ f2_ f3_; have f4_ := f1_.symm; have f5_ := f3_.symm; clear f1_ f2_ f3_; subst f4_; subst f5_))
                        have p441 : 0 ≤ (0 : Int) := (by omega)
                        have q441 : 0 < (x1_1.length : Int) := of_decide_eq_true (by first | (with_reducible assumption) | assumption)
                        obtain ⟨ad441, e441, hx441_0, hx441_1⟩ := at_T28 (Kd.V_reads' HO_1.out).2.2 0 p441 q441
                        cases e441
                        have qi441 : (0 < x1_1.length) = True := eq_true (by omega)
                        (try rw [show ((0 : Int)).toNat = 0 from rfl] at hx441_0)
                        (try rw [show 0 * 2 = 0 from rfl] at hx441_0)
                        (try rw [Addr.add_zero'] at hx441_0)
                        (try rw [show ((0 : Int)).toNat = 0 from rfl] at hx441_1)
                        (try rw [show 0 * 2 = 0 from rfl] at hx441_1)
                        (try rw [Addr.add_zero'] at hx441_1)
                        replace p441 := eq_true p441
                        replace q441 := eq_true q441
                        have p442 : 0 ≤ (0 : Int) := (by omega)
                        have q442 : 0 < (x0_1.length : Int) := of_decide_eq_true (by first | (with_reducible assumption) | assumption)
                        obtain ⟨ad442, e442, hx442_0, hx442_1⟩ := at_T28 (Kd.V_reads' HO_0.out).2.2 0 p442 q442
                        obtain rfl : ad440 = ad442 := (by injection e442)
                        have qi442 : (0 < x0_1.length) = True := eq_true (by omega)
                        (try rw [show ((0 : Int)).toNat = 0 from rfl] at hx442_0)
                        (try rw [show 0 * 2 = 0 from rfl] at hx442_0)
                        (try rw [Addr.add_zero'] at hx442_0)
                        (try rw [show ((0 : Int)).toNat = 0 from rfl] at hx442_1)
                        (try rw [show 0 * 2 = 0 from rfl] at hx442_1)
                        (try rw [Addr.add_zero'] at hx442_1)
                        replace p442 := eq_true p442
                        replace q442 := eq_true q442
                        have p443 : 0 ≤ (0 : Int) := (by omega)
                        have q443 : 0 < (x1_1.length : Int) := of_decide_eq_true (by first | (with_reducible assumption) | assumption)
                        obtain ⟨ad443, e443, hx443_0, hx443_1⟩ := at_T28 (Kd.V_reads' HO_1.out).2.2 0 p443 q443
                        obtain rfl : ad441 = ad443 := (by injection e443)
                        have qi443 : (0 < x1_1.length) = True := eq_true (by omega)
                        (try rw [show ((0 : Int)).toNat = 0 from rfl] at hx443_0)
                        (try rw [show 0 * 2 = 0 from rfl] at hx443_0)
                        (try rw [Addr.add_zero'] at hx443_0)
                        (try rw [show ((0 : Int)).toNat = 0 from rfl] at hx443_1)
                        (try rw [show 0 * 2 = 0 from rfl] at hx443_1)
                        (try rw [Addr.add_zero'] at hx443_1)
                        replace p443 := eq_true p443
                        replace q443 := eq_true q443
                        refine start_ (n := 21) (S := fun w' => w'.cell? ad440 = some (.int .i64 ((rd_T28 x0_1 0).f0)) ∧ w'.cell? ⟨ad440.block, ad440.off + 1, none⟩ = some (.int .i64 ((rd_T28 x0_1 0).f1)) ∧ w'.cell? ad441 = some (.int .i64 ((rd_T28 x1_1 0).f0)) ∧ w'.cell? ⟨ad441.block, ad441.off + 1, none⟩ = some (.int .i64 ((rd_T28 x1_1 0).f1)) ∧ w'.cell? ad440 = some (.int .i64 ((rd_T28 x0_1 0).f0)) ∧ w'.cell? ⟨ad440.block, ad440.off + 1, none⟩ = some (.int .i64 ((rd_T28 x0_1 0).f1)) ∧ w'.cell? ad441 = some (.int .i64 ((rd_T28 x1_1 0).f0)) ∧ w'.cell? ⟨ad441.block, ad441.off + 1, none⟩ = some (.int .i64 ((rd_T28 x1_1 0).f1))) (ds := []) #[false, false, false, false, false, false, false, false, false, false, false, false, false, false, false, false, false, false, false, false, false] (by kernel_rfl) rfl rfl ⟨hx440_0, hx440_1, hx441_0, hx441_1, hx442_0, hx442_1, hx443_0, hx443_1⟩ (fun hHeld => ?_); refine with_tabW interval_Intersect.tab6 interval_Intersect.bits6 (fun HT_ HW_ => ?_)
                        generalize wc.drew = w43 at HO_0 HO_1 HO_7 HB hx440_0 hx440_1 hx441_0 hx441_1 hx442_0 hx442_1 hx443_0 hx443_1 hHeld ⊢
                        refine pure_ (i := 0) (N := some 23) (v := ?_) (a' := ?_) #[true, false, false, false, false, false, false, false, false, false, false, false, false, false, false, false, false, false, false, false, false] rfl rfl (any_of HT_.out (by kernel_rfl)) (fun _ _ _ h => h) (Or.inl ⟨by rfl, ?_⟩) ?_ ?_
                        rotate_left
                        · intro w'
                          go_simp
                          with_reducible rfl
                        rotate_left
                        · simp only [Act.put, List.setIfInBounds_toArray, List.set_cons_zero, List.set_cons_succ, i64_w, i32_w]
                          rfl
                        refine pure_ (i := 1) (N := some 24) (v := ?_) (a' := ?_) #[true, true, false, false, false, false, false, false, false, false, false, false, false, false, false, false, false, false, false, false, false] rfl rfl (any_of HT_.out (by kernel_rfl)) (fun _ _ _ h => h) (Or.inl ⟨by rfl, ?_⟩) ?_ ?_
                        rotate_left
                        · intro w'
                          go_simp
                          with_reducible rfl
                        rotate_left
                        · simp only [Act.put, List.setIfInBounds_toArray, List.set_cons_zero, List.set_cons_succ, i64_w, i32_w]
                          rfl
                        refine pure_ (i := 2) (N := some 25) (v := ?_) (a' := ?_) #[true, true, true, false, false, false, false, false, false, false, false, false, false, false, false, false, false, false, false, false, false] rfl rfl (any_of HT_.out (by kernel_rfl)) (fun _ _ _ h => h) (Or.inl ⟨by rfl, ?_⟩) ?_ ?_
                        rotate_left
                        · intro w'
                          go_simp
                          with_reducible rfl
                        rotate_left
                        · simp only [Act.put, List.setIfInBounds_toArray, List.set_cons_zero, List.set_cons_succ, i64_w, i32_w]
                          rfl
                        refine pure_ (i := 4) (N := some 27) (v := ?_) (a' := ?_) #[true, true, true, false, true, false, false, false, false, false, false, false, false, false, false, false, false, false, false, false, false] rfl rfl (any_of HT_.out (by kernel_rfl)) (fun _ _ _ h => h) (Or.inl ⟨by rfl, ?_⟩) ?_ ?_
                        rotate_left
                        · intro w'
                          go_simp
                          with_reducible rfl
                        rotate_left
                        · simp only [Act.put, List.setIfInBounds_toArray, List.set_cons_zero, List.set_cons_succ, i64_w, i32_w]
                          rfl
                        refine pure_ (i := 5) (N := some 28) (v := ?_) (a' := ?_) #[true, true, true, false, true, true, false, false, false, false, false, false, false, false, false, false, false, false, false, false, false] rfl rfl (any_of HT_.out (by kernel_rfl)) (fun _ _ _ h => h) (Or.inl ⟨by rfl, ?_⟩) ?_ ?_
                        rotate_left
                        · intro w'
                          go_simp
                          with_reducible rfl
                        rotate_left
                        · simp only [Act.put, List.setIfInBounds_toArray, List.set_cons_zero, List.set_cons_succ, i64_w, i32_w]
                          rfl
                        refine pure_ (i := 6) (N := some 29) (v := ?_) (a' := ?_) #[true, true, true, false, true, true, true, false, false, false, false, false, false, false, false, false, false, false, false, false, false] rfl rfl (any_of HT_.out (by kernel_rfl)) (fun _ _ _ h => h) (Or.inl ⟨by rfl, ?_⟩) ?_ ?_
                        rotate_left
                        · intro w'
                          go_simp
                          with_reducible rfl
                        rotate_left
                        · simp only [Act.put, List.setIfInBounds_toArray, List.set_cons_zero, List.set_cons_succ, i64_w, i32_w]
                          rfl
                        refine pure_ (i := 9) (N := some 32) (v := ?_) (a' := ?_) #[true, true, true, false, true, true, true, false, false, true, false, false, false, false, false, false, false, false, false, false, false] rfl rfl (any_of HT_.out (by kernel_rfl)) (fun _ _ _ h => h) (Or.inl ⟨by rfl, ?_⟩) ?_ ?_
                        rotate_left
                        · intro w'
                          go_simp
                          with_reducible rfl
                        rotate_left
                        · simp only [Act.put, List.setIfInBounds_toArray, List.set_cons_zero, List.set_cons_succ, i64_w, i32_w]
                          rfl
                        refine pure_ (i := 10) (N := some 33) (v := ?_) (a' := ?_) #[true, true, true, false, true, true, true, false, false, true, true, false, false, false, false, false, false, false, false, false, false] rfl rfl (any_of HT_.out (by kernel_rfl)) (fun _ _ _ h => h) (Or.inl ⟨by rfl, ?_⟩) ?_ ?_
                        rotate_left
                        · intro w'
                          go_simp
                          with_reducible rfl
                        rotate_left
                        · simp only [Act.put, List.setIfInBounds_toArray, List.set_cons_zero, List.set_cons_succ, i64_w, i32_w]
                          rfl
                        refine pure_ (i := 11) (N := some 34) (v := ?_) (a' := ?_) #[true, true, true, false, true, true, true, false, false, true, true, true, false, false, false, false, false, false, false, false, false] rfl rfl (any_of HT_.out (by kernel_rfl)) (fun _ _ _ h => h) (Or.inl ⟨by rfl, ?_⟩) ?_ ?_
                        rotate_left
                        · intro w'
                          go_simp
                          with_reducible rfl
                        rotate_left
                        · simp only [Act.put, List.setIfInBounds_toArray, List.set_cons_zero, List.set_cons_succ, i64_w, i32_w]
                          rfl
                        refine pure_ (i := 13) (N := some 36) (v := ?_) (a' := ?_) #[true, true, true, false, true, true, true, false, false, true, true, true, false, true, false, false, false, false, false, false, false] rfl rfl (any_of HT_.out (by kernel_rfl)) (fun _ _ _ h => h) (Or.inl ⟨by rfl, ?_⟩) ?_ ?_
                        rotate_left
                        · intro w'
                          go_simp
                          with_reducible rfl
                        rotate_left
                        · simp only [Act.put, List.setIfInBounds_toArray, List.set_cons_zero, List.set_cons_succ, i64_w, i32_w]
                          rfl
                        refine pure_ (i := 14) (N := some 37) (v := ?_) (a' := ?_) #[true, true, true, false, true, true, true, false, false, true, true, true, false, true, true, false, false, false, false, false, false] rfl rfl (any_of HT_.out (by kernel_rfl)) (fun _ _ _ h => h) (Or.inl ⟨by rfl, ?_⟩) ?_ ?_
                        rotate_left
                        · intro w'
                          go_simp
                          with_reducible rfl
                        rotate_left
                        · simp only [Act.put, List.setIfInBounds_toArray, List.set_cons_zero, List.set_cons_succ, i64_w, i32_w]
                          rfl
                        refine pure_ (i := 15) (N := some 38) (v := ?_) (a' := ?_) #[true, true, true, false, true, true, true, false, false, true, true, true, false, true, true, true, false, false, false, false, false] rfl rfl (any_of HT_.out (by kernel_rfl)) (fun _ _ _ h => h) (Or.inl ⟨by rfl, ?_⟩) ?_ ?_
                        rotate_left
                        · intro w'
                          go_simp
                          with_reducible rfl
                        rotate_left
                        · simp only [Act.put, List.setIfInBounds_toArray, List.set_cons_zero, List.set_cons_succ, i64_w, i32_w]
                          rfl
                        refine take_ (i := 3) (N := some 26) (v := ?_) (a' := ?_) #[true, true, true, true, true, true, true, false, false, true, true, true, false, true, true, true, false, false, false, false, false] rfl rfl (take_ofW HT_.out HW_.out (by kernel_rfl)) (fun _ _ _ h => h) (Or.inl ⟨by rfl, ?_⟩) hHeld ?_ ?_
                        rotate_left
                        · rintro w' ⟨s0, s1, s2, s3, s4, s5, s6, s7⟩
                          go_simp
                          with_reducible rfl
                        rotate_left
                        · simp only [Act.put, List.setIfInBounds_toArray, List.set_cons_zero, List.set_cons_succ, i64_w, i32_w]
                          rfl
                        refine take_ (i := 7) (N := some 30) (v := ?_) (a' := ?_) #[true, true, true, true, true, true, true, true, false, true, true, true, false, true, true, true, false, false, false, false, false] rfl rfl (take_ofW HT_.out HW_.out (by kernel_rfl)) (fun _ _ _ h => h) (Or.inl ⟨by rfl, ?_⟩) hHeld ?_ ?_
                        rotate_left
                        · rintro w' ⟨s0, s1, s2, s3, s4, s5, s6, s7⟩
                          go_simp
                          with_reducible rfl
                        rotate_left
                        · simp only [Act.put, List.setIfInBounds_toArray, List.set_cons_zero, List.set_cons_succ, i64_w, i32_w]
                          rfl
                        refine pure_ (i := 8) (N := some 31) (v := ?_) (a' := ?_) #[true, true, true, true, true, true, true, true, true, true, true, true, false, true, true, true, false, false, false, false, false] rfl rfl (any_of HT_.out (by kernel_rfl)) (fun _ _ _ h => h) (Or.inl ⟨by rfl, ?_⟩) ?_ ?_
                        rotate_left
                        · intro w'
                          go_simp
                          with_reducible rfl
                        rotate_left
                        · simp only [Act.put, List.setIfInBounds_toArray, List.set_cons_zero, List.set_cons_succ, i64_w, i32_w]
                          rfl
                        refine take_ (i := 12) (N := some 35) (v := ?_) (a' := ?_) #[true, true, true, true, true, true, true, true, true, true, true, true, true, true, true, true, false, false, false, false, false] rfl rfl (take_ofW HT_.out HW_.out (by kernel_rfl)) (fun _ _ _ h => h) (Or.inl ⟨by rfl, ?_⟩) hHeld ?_ ?_
                        rotate_left
                        · rintro w' ⟨s0, s1, s2, s3, s4, s5, s6, s7⟩
                          go_simp
                          with_reducible rfl
                        rotate_left
                        · simp only [Act.put, List.setIfInBounds_toArray, List.set_cons_zero, List.set_cons_succ, i64_w, i32_w]
                          rfl
                        refine take_ (i := 16) (N := some 39) (v := ?_) (a' := ?_) #[true, true, true, true, true, true, true, true, true, true, true, true, true, true, true, true, true, false, false, false, false] rfl rfl (take_ofW HT_.out HW_.out (by kernel_rfl)) (fun _ _ _ h => h) (Or.inl ⟨by rfl, ?_⟩) hHeld ?_ ?_
                        rotate_left
                        · rintro w' ⟨s0, s1, s2, s3, s4, s5, s6, s7⟩
                          go_simp
                          with_reducible rfl
                        rotate_left
                        · simp only [Act.put, List.setIfInBounds_toArray, List.set_cons_zero, List.set_cons_succ, i64_w, i32_w]
                          rfl
                        refine pure_ (i := 17) (N := some 40) (v := ?_) (a' := ?_) #[true, true, true, true, true, true, true, true, true, true, true, true, true, true, true, true, true, true, false, false, false] rfl rfl (any_of HT_.out (by kernel_rfl)) (fun _ _ _ h => h) (Or.inl ⟨by rfl, ?_⟩) ?_ ?_
                        rotate_left
                        · intro w'
                          go_simp
                          with_reducible rfl
                        rotate_left
                        · simp only [Act.put, List.setIfInBounds_toArray, List.set_cons_zero, List.set_cons_succ, i64_w, i32_w]
                          rfl
                        refine pure_ (i := 18) (N := some 41) (v := ?_) (a' := ?_) #[true, true, true, true, true, true, true, true, true, true, true, true, true, true, true, true, true, true, true, false, false] rfl rfl (any_of HT_.out (by kernel_rfl)) (fun _ _ _ h => h) (Or.inl ⟨by rfl, ?_⟩) ?_ ?_
                        rotate_left
                        · intro w'
                          go_simp
                          with_reducible rfl
                        rotate_left
                        · simp only [Act.put, List.setIfInBounds_toArray, List.set_cons_zero, List.set_cons_succ, i64_w, i32_w]
                          rfl
                        refine one_ (i := 19) (N := some 8) #[true, true, true, true, true, true, true, true, true, true, true, true, true, true, true, true, true, true, true, true, false] rfl rfl (one_of HT_.out (by kernel_rfl)) (by decide) (fun K hK => ?_)
                        refine box_step ?hg (N := 8) ?hd (cs := #[.int .i64 0, .int .i64 0]) (t := 28) ?hr ?_; (case hd => rfl); (case hg => rfl); (case hr => first | (go_simp; done) | (go_simp; rfl))
                        intro gb444 hg w46 hbox hb
                        have HS0_ := (hb.cell (World.block_lt_of_cell? _ _ (hHeld.1))).trans (hHeld.1)
                        have HS1_ := (hb.cell (World.block_lt_of_cell? _ _ (hHeld.2.1))).trans (hHeld.2.1)
                        have HS2_ := (hb.cell (World.block_lt_of_cell? _ _ (hHeld.2.2.1))).trans (hHeld.2.2.1)
                        have HS3_ := (hb.cell (World.block_lt_of_cell? _ _ (hHeld.2.2.2.1))).trans (hHeld.2.2.2.1)
                        have HS4_ := (hb.cell (World.block_lt_of_cell? _ _ (hHeld.2.2.2.2.1))).trans (hHeld.2.2.2.2.1)
                        have HS5_ := (hb.cell (World.block_lt_of_cell? _ _ (hHeld.2.2.2.2.2.1))).trans (hHeld.2.2.2.2.2.1)
                        have HS6_ := (hb.cell (World.block_lt_of_cell? _ _ (hHeld.2.2.2.2.2.2.1))).trans (hHeld.2.2.2.2.2.2.1)
                        have HS7_ := (hb.cell (World.block_lt_of_cell? _ _ (hHeld.2.2.2.2.2.2.2))).trans (hHeld.2.2.2.2.2.2.2)
                        have n0_ := Aside0.mk (Kd.V_below (Kd.V_elderB (by (with_reducible repeat (first | apply Kd.V_alloc | apply Kd.V_drewN | apply Kd.V_drew)); exact HO_0.out) gb444 (Nat.le_of_eq hg.symm)) hb)
                        have n1_ := Aside0.mk (Kd.V_below (Kd.V_elderB (by (with_reducible repeat (first | apply Kd.V_alloc | apply Kd.V_drewN | apply Kd.V_drew)); exact HO_1.out) gb444 (Nat.le_of_eq hg.symm)) hb)
                        have n2_ := Aside0.mk (Kd.R_below (Kd.R_elderB (by (with_reducible repeat (first | apply Kd.R_alloc | apply Kd.R_drewN | apply Kd.R_drew)); exact HO_7.out) gb444 (Nat.le_of_eq hg.symm)) hb)
                        have n3_ := Aside0.mk (below_step (by repeat (first | (with_reducible first | exact HB.out | apply below_alloc | apply pw_below_drewN | apply below_drew1) | exact HB.out)) hb)
                        have n4_ := Aside0.mk (hbox)
                        have n5_ := Aside0.mk ((by rw [hg]; exact (below_size (by repeat (first | (with_reducible first | exact HB.out | apply below_alloc | apply pw_below_drewN | apply below_drew1) | exact HB.out))) : w.heap.size ≤ gb444))
                        have n6_ := Aside0.mk ((by rw [hg]; exact (below_size (by repeat (first | (with_reducible first | exact HB.out | apply below_alloc | apply pw_below_drewN | apply below_drew1) | exact HB.out))) : w.heap.size ≤ gb444))
                        clear HO_0
                        clear HO_1
                        clear HO_7
                        clear HB
                        have HO_0 := n0_
                        have HO_1 := n1_
                        have HO_7 := n2_
                        have HB := n3_
                        have BK444 := n4_
                        have GW444 := n5_
                        have GE444 := n6_
                        clear n0_ n1_ n2_ n3_ n4_ n5_ n6_
                        clear hb hbox hg
                        refine hK.out _ _ ⟨HS0_, HS1_, HS2_, HS3_, HS4_, HS5_, HS6_, HS7_⟩ (fun hHeld => ?_)
                        clear hK K
                        refine norm_ (a' := ?_) ?_ ?_
                        rotate_left
                        · show Act.put _ (some 8) _ = _
                          simp only [Act.put, List.setIfInBounds_toArray, List.set_cons_zero, List.set_cons_succ, i64_w, i32_w]
                          rfl
                        refine one_ (i := 20) (N := none) #[true, true, true, true, true, true, true, true, true, true, true, true, true, true, true, true, true, true, true, true, true] rfl rfl (one_of HT_.out (by kernel_rfl)) (by decide) (fun K hK => ?_)
                        have hs47 : w46.cell? ⟨gb444, 0, none⟩ = some (.int .i64 0) := (blk_cell BK444.out 0).trans rfl
                        have hfs47 := blk_frozen BK444.out 0
                        have hs48 : w46.cell? ⟨gb444, 1, none⟩ = some (.int .i64 0) := (blk_cell BK444.out 1).trans rfl
                        have hfs48 := blk_frozen BK444.out 1
                        refine skip_ (w1 := ?_) (by rfl) rfl ?_ ?_
                        rotate_left
                        · go_simp
                          rfl
                        have hne0_ : ad440.block ≠ gb444 := (V_block HO_0.out (of_decide_eq_true (by assumption)) (by decide)).2; have hne1_ : ad441.block ≠ gb444 := (V_block HO_1.out (of_decide_eq_true (by assumption)) (by decide)).2; refine hK.out _ _ ⟨((cell_far (p := ⟨gb444, _, none⟩) (by exact hne0_) _).trans (((cell_far (p := ⟨gb444, _, none⟩) (by exact hne0_) _).trans (hHeld.1)))), ((cell_far (p := ⟨gb444, _, none⟩) (by exact hne0_) _).trans (((cell_far (p := ⟨gb444, _, none⟩) (by exact hne0_) _).trans (hHeld.2.1)))), ((cell_far (p := ⟨gb444, _, none⟩) (by exact hne1_) _).trans (((cell_far (p := ⟨gb444, _, none⟩) (by exact hne1_) _).trans (hHeld.2.2.1)))), ((cell_far (p := ⟨gb444, _, none⟩) (by exact hne1_) _).trans (((cell_far (p := ⟨gb444, _, none⟩) (by exact hne1_) _).trans (hHeld.2.2.2.1)))), ((cell_far (p := ⟨gb444, _, none⟩) (by exact hne0_) _).trans (((cell_far (p := ⟨gb444, _, none⟩) (by exact hne0_) _).trans (hHeld.2.2.2.2.1)))), ((cell_far (p := ⟨gb444, _, none⟩) (by exact hne0_) _).trans (((cell_far (p := ⟨gb444, _, none⟩) (by exact hne0_) _).trans (hHeld.2.2.2.2.2.1)))), ((cell_far (p := ⟨gb444, _, none⟩) (by exact hne1_) _).trans (((cell_far (p := ⟨gb444, _, none⟩) (by exact hne1_) _).trans (hHeld.2.2.2.2.2.2.1)))), ((cell_far (p := ⟨gb444, _, none⟩) (by exact hne1_) _).trans (((cell_far (p := ⟨gb444, _, none⟩) (by exact hne1_) _).trans (hHeld.2.2.2.2.2.2.2))))⟩ (fun hHeld => ?_)
                        clear hK K
                        refine done_ (done_of HT_.out (by kernel_rfl)) ?_
                        have hcz49_0 : w46.cell? ⟨gb444, 0, none⟩ = some (.int .i64 0) := (blk_cell BK444.out 0).trans rfl
                        have hcz49_1 : w46.cell? ⟨gb444, 1, none⟩ = some (.int .i64 0) := (blk_cell BK444.out 1).trans rfl
                        have hfz49_0 := blk_frozen BK444.out 0
                        have hfz49_1 := blk_frozen BK444.out 1
                        try go_wp2
                        have n0_ : Aside0 (Kd.V k28 28 ((w46.setCell ⟨gb444, 0, none⟩ (.int .i64 ji14)).setCell ⟨gb444, 1, none⟩ (.int .i64 ji15)) w.heap.size (fun k_ => ((P0_ k_ ∨ P1_ k_) ∨ w.heap.size ≤ k_) ∧ some k_ ≠ (u7 : Value).ownBlock ∧ k_ ≠ gb444) (.slice (some ad440) x0_1.length co44) x0_1) := ⟨by (with_reducible repeat (first | apply Kd.V_alloc | apply Kd.V_drewN | apply Kd.V_drew)); exact Kd.V_mono (Kd.V_far (p := ⟨gb444, 1, none⟩) (Kd.V_far (p := ⟨gb444, 0, none⟩) (Kd.V_mono HO_0.out (fun k_ hk => (⟨hk, hk.2⟩ : _ ∧ k_ ≠ gb444))) (fun _ hk => hk.2) (.int .i64 ji14)) (fun _ hk => hk.2) (.int .i64 ji15)) (fun _ hk => ⟨hk.1.1.1, ⟨hk.1.1.2, hk.1.2⟩⟩)⟩
                        have n1_ : Aside0 (Kd.V k28 28 ((w46.setCell ⟨gb444, 0, none⟩ (.int .i64 ji14)).setCell ⟨gb444, 1, none⟩ (.int .i64 ji15)) w.heap.size (fun k_ => ((P0_ k_ ∨ P1_ k_) ∨ w.heap.size ≤ k_) ∧ some k_ ≠ (u7 : Value).ownBlock ∧ k_ ≠ gb444) (.slice (some ad441) x1_1.length co45) x1_1) := ⟨by (with_reducible repeat (first | apply Kd.V_alloc | apply Kd.V_drewN | apply Kd.V_drew)); exact Kd.V_mono (Kd.V_far (p := ⟨gb444, 1, none⟩) (Kd.V_far (p := ⟨gb444, 0, none⟩) (Kd.V_mono HO_1.out (fun k_ hk => (⟨hk, hk.2⟩ : _ ∧ k_ ≠ gb444))) (fun _ hk => hk.2) (.int .i64 ji14)) (fun _ hk => hk.2) (.int .i64 ji15)) (fun _ hk => ⟨hk.1.1.1, ⟨hk.1.1.2, hk.1.2⟩⟩)⟩
                        have n2_ : Aside0 (Kd.R k28 28 ((w46.setCell ⟨gb444, 0, none⟩ (.int .i64 ji14)).setCell ⟨gb444, 1, none⟩ (.int .i64 ji15)) w.heap.size (fun k_ => (w.heap.size ≤ k_) ∧ k_ ≠ gb444) u7 x7_1) := ⟨by (with_reducible repeat (first | apply Kd.R_alloc | apply Kd.R_drewN | apply Kd.R_drew)); exact Kd.R_mono (Kd.R_far (p := ⟨gb444, 1, none⟩) (Kd.R_far (p := ⟨gb444, 0, none⟩) (Kd.R_mono HO_7.out (fun k_ hk => (⟨hk, hk.2⟩ : _ ∧ k_ ≠ gb444))) (fun _ hk => hk.2) (.int .i64 ji14)) (fun _ hk => hk.2) (.int .i64 ji15)) (fun _ hk => ⟨hk.1.1, hk.1.2⟩)⟩
                        have n3_ : Aside0 (((w46.setCell ⟨gb444, 0, none⟩ (.int .i64 ji14)).setCell ⟨gb444, 1, none⟩ (.int .i64 ji15)).heap[gb444]? = some (.cells #[.int .i64 ji14, .int .i64 ji15] 28 (0, 0))) := ⟨by (with_reducible repeat (first | refine blk_drewN ?_ _ | refine blk_drew ?_ | refine blk_alloc ?_ _)); refine blk_put (cs := #[.int .i64 ji14, .int .i64 0]) ?_ 1 _ rfl; (with_reducible repeat (first | refine blk_drewN ?_ _ | refine blk_drew ?_ | refine blk_alloc ?_ _)); refine blk_put (cs := #[.int .i64 0, .int .i64 0]) ?_ 0 _ rfl; (with_reducible repeat (first | refine blk_drewN ?_ _ | refine blk_drew ?_ | refine blk_alloc ?_ _)); exact BK444.out⟩
                        have n4_ : Aside0 (Below w.heap.size w ((w46.setCell ⟨gb444, 0, none⟩ (.int .i64 ji14)).setCell ⟨gb444, 1, none⟩ (.int .i64 ji15))) := ⟨by repeat (first | (with_reducible first | exact HB.out | apply below_alloc | apply pw_below_drewN | apply below_drew1 | refine below_set ?_ GE444.out) | exact HB.out)⟩
                        (try clear HO_0)
                        (try clear HO_1)
                        (try clear HO_7)
                        (try clear BK444)
                        (try clear HB)
                        generalize ((w46.setCell ⟨gb444, 0, none⟩ (.int .i64 ji14)).setCell ⟨gb444, 1, none⟩ (.int .i64 ji15)) = w50 at n0_ n1_ n2_ n3_ n4_ ⊢
                        have HO_0 := n0_
                        have HO_1 := n1_
                        have HO_7 := n2_
                        have BK444 := n3_
                        have HB := n4_
                        clear n0_ n1_ n2_ n3_ n4_
                        have n0_ := Aside0.mk (Kd.V_drew HO_0.out)
                        have n1_ := Aside0.mk (Kd.V_drew HO_1.out)
                        have n2_ := Aside0.mk (Kd.R_drew HO_7.out)
                        have n3_ := Aside0.mk (blk_drew BK444.out)
                        have n4_ := Aside0.mk (below_drew1 HB.out)
                        clear HO_0
                        clear HO_1
                        clear HO_7
                        clear BK444
                        clear HB
                        have HO_0 := n0_
                        have HO_1 := n1_
                        have HO_7 := n2_
                        have BK444 := n3_
                        have HB := n4_
                        clear n0_ n1_ n2_ n3_ n4_
                        have p460 : 0 ≤ (0 : Int) := (by omega)
                        have q460 : 0 < (x0_1.length : Int) := of_decide_eq_true (by first | (with_reducible assumption) | assumption)
                        obtain ⟨ad460, e460, hx460_0, hx460_1⟩ := at_T28 (Kd.V_reads' HO_0.out).2.2 0 p460 q460
                        obtain rfl : ad440 = ad460 := (by injection e460)
                        have qi460 : (0 < x0_1.length) = True := eq_true (by omega)
                        (try rw [show ((0 : Int)).toNat = 0 from rfl] at hx460_0)
                        (try rw [show 0 * 2 = 0 from rfl] at hx460_0)
                        (try rw [Addr.add_zero'] at hx460_0)
                        (try rw [show ((0 : Int)).toNat = 0 from rfl] at hx460_1)
                        (try rw [show 0 * 2 = 0 from rfl] at hx460_1)
                        (try rw [Addr.add_zero'] at hx460_1)
                        replace p460 := eq_true p460
                        replace q460 := eq_true q460
                        have p461 : 0 ≤ (0 : Int) := (by omega)
                        have q461 : 0 < (x1_1.length : Int) := of_decide_eq_true (by first | (with_reducible assumption) | assumption)
                        obtain ⟨ad461, e461, hx461_0, hx461_1⟩ := at_T28 (Kd.V_reads' HO_1.out).2.2 0 p461 q461
                        obtain rfl : ad441 = ad461 := (by injection e461)
                        have qi461 : (0 < x1_1.length) = True := eq_true (by omega)
                        (try rw [show ((0 : Int)).toNat = 0 from rfl] at hx461_0)
                        (try rw [show 0 * 2 = 0 from rfl] at hx461_0)
                        (try rw [Addr.add_zero'] at hx461_0)
                        (try rw [show ((0 : Int)).toNat = 0 from rfl] at hx461_1)
                        (try rw [show 0 * 2 = 0 from rfl] at hx461_1)
                        (try rw [Addr.add_zero'] at hx461_1)
                        replace p461 := eq_true p461
                        replace q461 := eq_true q461
                        refine start_ (n := 9) (S := fun w' => w'.cell? ad440 = some (.int .i64 ((rd_T28 x0_1 0).f0)) ∧ w'.cell? ⟨ad440.block, ad440.off + 1, none⟩ = some (.int .i64 ((rd_T28 x0_1 0).f1)) ∧ w'.cell? ad441 = some (.int .i64 ((rd_T28 x1_1 0).f0)) ∧ w'.cell? ⟨ad441.block, ad441.off + 1, none⟩ = some (.int .i64 ((rd_T28 x1_1 0).f1))) (ds := []) #[false, false, false, false, false, false, false, false, false] (by kernel_rfl) rfl rfl ⟨hx460_0, hx460_1, hx461_0, hx461_1⟩ (fun hHeld => ?_); refine with_tabW interval_Intersect.tab9 interval_Intersect.bits9 (fun HT_ HW_ => ?_)
                        generalize w50.drew = w51 at HO_0 HO_1 HO_7 BK444 HB hx460_0 hx460_1 hx461_0 hx461_1 hHeld ⊢
                        refine pure_ (i := 0) (N := some 51) (v := ?_) (a' := ?_) #[true, false, false, false, false, false, false, false, false] rfl rfl (any_of HT_.out (by kernel_rfl)) (fun _ _ _ h => h) (Or.inl ⟨by rfl, ?_⟩) ?_ ?_
                        rotate_left
                        · intro w'
                          go_simp
                          with_reducible rfl
                        rotate_left
                        · simp only [Act.put, List.setIfInBounds_toArray, List.set_cons_zero, List.set_cons_succ, i64_w, i32_w]
                          rfl
                        refine pure_ (i := 1) (N := some 52) (v := ?_) (a' := ?_) #[true, true, false, false, false, false, false, false, false] rfl rfl (any_of HT_.out (by kernel_rfl)) (fun _ _ _ h => h) (Or.inl ⟨by rfl, ?_⟩) ?_ ?_
                        rotate_left
                        · intro w'
                          go_simp
                          with_reducible rfl
                        rotate_left
                        · simp only [Act.put, List.setIfInBounds_toArray, List.set_cons_zero, List.set_cons_succ, i64_w, i32_w]
                          rfl
                        refine pure_ (i := 2) (N := some 53) (v := ?_) (a' := ?_) #[true, true, true, false, false, false, false, false, false] rfl rfl (any_of HT_.out (by kernel_rfl)) (fun _ _ _ h => h) (Or.inl ⟨by rfl, ?_⟩) ?_ ?_
                        rotate_left
                        · intro w'
                          go_simp
                          with_reducible rfl
                        rotate_left
                        · simp only [Act.put, List.setIfInBounds_toArray, List.set_cons_zero, List.set_cons_succ, i64_w, i32_w]
                          rfl
                        refine pure_ (i := 4) (N := some 55) (v := ?_) (a' := ?_) #[true, true, true, false, true, false, false, false, false] rfl rfl (any_of HT_.out (by kernel_rfl)) (fun _ _ _ h => h) (Or.inl ⟨by rfl, ?_⟩) ?_ ?_
                        rotate_left
                        · intro w'
                          go_simp
                          with_reducible rfl
                        rotate_left
                        · simp only [Act.put, List.setIfInBounds_toArray, List.set_cons_zero, List.set_cons_succ, i64_w, i32_w]
                          rfl
                        refine pure_ (i := 5) (N := some 56) (v := ?_) (a' := ?_) #[true, true, true, false, true, true, false, false, false] rfl rfl (any_of HT_.out (by kernel_rfl)) (fun _ _ _ h => h) (Or.inl ⟨by rfl, ?_⟩) ?_ ?_
                        rotate_left
                        · intro w'
                          go_simp
                          with_reducible rfl
                        rotate_left
                        · simp only [Act.put, List.setIfInBounds_toArray, List.set_cons_zero, List.set_cons_succ, i64_w, i32_w]
                          rfl
                        refine pure_ (i := 6) (N := some 57) (v := ?_) (a' := ?_) #[true, true, true, false, true, true, true, false, false] rfl rfl (any_of HT_.out (by kernel_rfl)) (fun _ _ _ h => h) (Or.inl ⟨by rfl, ?_⟩) ?_ ?_
                        rotate_left
                        · intro w'
                          go_simp
                          with_reducible rfl
                        rotate_left
                        · simp only [Act.put, List.setIfInBounds_toArray, List.set_cons_zero, List.set_cons_succ, i64_w, i32_w]
                          rfl
                        refine take_ (i := 3) (N := some 54) (v := ?_) (a' := ?_) #[true, true, true, true, true, true, true, false, false] rfl rfl (take_ofW HT_.out HW_.out (by kernel_rfl)) (fun _ _ _ h => h) (Or.inl ⟨by rfl, ?_⟩) hHeld ?_ ?_
                        rotate_left
                        · rintro w' ⟨s0, s1, s2, s3⟩
                          go_simp
                          with_reducible rfl
                        rotate_left
                        · simp only [Act.put, List.setIfInBounds_toArray, List.set_cons_zero, List.set_cons_succ, i64_w, i32_w]
                          rfl
                        refine take_ (i := 7) (N := some 58) (v := ?_) (a' := ?_) #[true, true, true, true, true, true, true, true, false] rfl rfl (take_ofW HT_.out HW_.out (by kernel_rfl)) (fun _ _ _ h => h) (Or.inl ⟨by rfl, ?_⟩) hHeld ?_ ?_
                        rotate_left
                        · rintro w' ⟨s0, s1, s2, s3⟩
                          go_simp
                          with_reducible rfl
                        rotate_left
                        · simp only [Act.put, List.setIfInBounds_toArray, List.set_cons_zero, List.set_cons_succ, i64_w, i32_w]
                          rfl
                        refine pure_ (i := 8) (N := some 59) (v := ?_) (a' := ?_) #[true, true, true, true, true, true, true, true, true] rfl rfl (any_of HT_.out (by kernel_rfl)) (fun _ _ _ h => h) (Or.inl ⟨by rfl, ?_⟩) ?_ ?_
                        rotate_left
                        · intro w'
                          go_simp
                          with_reducible rfl
                        rotate_left
                        · simp only [Act.put, List.setIfInBounds_toArray, List.set_cons_zero, List.set_cons_succ, i64_w, i32_w]
                          rfl
                        refine done_ (done_of HT_.out (by kernel_rfl)) ?_
                        have q52 : (1 : Int) ≤ ((x0_1.length : Int) : Int) := of_decide_eq_true (by first | (with_reducible assumption) | assumption)
                        obtain ⟨i052, hi052, _, hsz52, _⟩ := info_parts info28
                        have hroom52 : x0_1.length ≤ co44 := (Kd.V_reads' HO_0.out).2.1
                        have hC52 : Kd.F k28 _ _ (some ad440) x0_1.length x0_1 := (Kd.V_at (base := w.heap.size) HO_0.out).2.2
                        have hcut52 := cut_from (P := Try.prog) 22 28 .i64 Try.underlying22 hi052 2 hsz52 (some ad440) x0_1.length co44 1 (by omega) q52
                        have hr52 := Kd.F_cut (m := (1 : Int).toNat) (c := co44) hC52 (by omega) hroom52
                        obtain ⟨A52, hA52⟩ : ∃ A1, A1 = (if co44 = (1 : Int).toNat then (some ad440) else ((some ad440) : Option Addr).map (·.add ((1 : Int).toNat * 2))) := ⟨_, rfl⟩
                        obtain ⟨c52, hc52⟩ : ∃ c1, c1 = co44 - (1 : Int).toNat := ⟨_, rfl⟩
                        have hy52 : y462.length = x0_1.length - (1 : Int).toNat := (by rw [Ny462.out, List.length_drop] <;> omega)
                        rw [show (x0_1).drop (1 : Int).toNat = y462 from Ny462.out.symm] at hr52
                        replace hr52 : Kd.F k28 _ _ A52 y462.length y462 := (by rw [hA52]; exact hr52)
                        rw [← hy52, ← hA52, ← hc52] at hcut52
                        have HO466 := Aside0.mk (show Kd.V k28 28 _ w.heap.size _ (.slice A52 y462.length c52) y462 from Kd.V_mk (by rw [hy52, hc52]; exact Nat.sub_le_sub_right hroom52 _) hr52)
                        have HC466 := Aside0.mk (show y462.length ≤ c52 from by rw [hy52, hc52]; exact Nat.sub_le_sub_right hroom52 _)
                        clear hr52 hC52 hroom52 hi052 hsz52 hc52
                        have KY52 := Aside0.mk hy52
                        have KA52 := Aside0.mk hA52
                        clear hy52 hA52
                        replace q52 := eq_true q52
                        try go_wp2
                        go_roundg kj5
                        case measure => have := HK1.out; have := HJ5.out; omega
                        case rel => exact ⟨(y462), (x1_1), (x7_1), H', ⟨by have := HK1.out; have := HJ5.out; omega⟩, ⟨by (with_reducible repeat (first | apply Kd.V_alloc | apply Kd.V_drewN | apply Kd.V_drew)); exact Kd.V_mono HO466.out (fun _ hk => ⟨hk.1, hk.2.1⟩)⟩, ⟨by (with_reducible repeat (first | apply Kd.V_alloc | apply Kd.V_drewN | apply Kd.V_drew)); exact Kd.V_mono HO_1.out (fun _ hk => ⟨hk.1, hk.2.1⟩)⟩, ⟨by (with_reducible repeat (first | apply Kd.R_alloc | apply Kd.R_drewN | apply Kd.R_drew)); exact Kd.R_mono HO_7.out (fun _ hk => hk.1)⟩, ⟨by repeat (first | (with_reducible first | exact HB.out | apply below_alloc | apply pw_below_drewN | apply below_drew1 | refine below_set ?_ GE444.out) | exact HB.out)⟩⟩
                      · rw [if_neg c42] at H
                        exact absurd H (by simp)
                    · rw [if_neg c41] at H
                      have c41b0 : decide (((rd_T28 x0_1 0).f1) ≤ ((rd_T28 x1_1 0).f1)) = false := decide_eq_false c41
                      clear c41
                      by_cases c53 : 1 ≤ (x1_1.length : Int)
                      · rw [if_pos c53] at H
                        have c53b0 := eq_true c53
                        have c53b1 : decide (1 ≤ (x1_1.length : Int)) = true := decide_eq_true c53
                        clear c53
                        obtain ⟨y467, hy467⟩ : ∃ y_ : List (S28), y_ = (x1_1.drop 1) := ⟨_, rfl⟩
                        replace H : (interval_Intersect.l0 kj5 x0_1 y467 x7_1) = some (r1, r2) := by first | (rw [hy467]; with_reducible exact H) | (have H2_ := (Option.bind_some _ _).symm.trans H; rw [hy467]; with_reducible exact H2_) | (have H2_ := (Option.bind_some _ _).symm.trans H; with_reducible exact H2_) | with_reducible exact H | (rw [hy467]; exact H) | exact H
                        have Ny467 := Aside0.mk hy467
                        clear hy467
                        have H' := Aside0.mk H
                        clear H
                        try go_wp2
                        have n0_ := Aside0.mk (Kd.V_drew HO_0.out)
                        have n1_ := Aside0.mk (Kd.V_drew HO_1.out)
                        have n2_ := Aside0.mk (Kd.R_drew HO_7.out)
                        have n3_ := Aside0.mk (below_drew1 HB.out)
                        clear HO_0
                        clear HO_1
                        clear HO_7
                        clear HB
                        have HO_0 := n0_
                        have HO_1 := n1_
                        have HO_7 := n2_
                        have HB := n3_
                        clear n0_ n1_ n2_ n3_
                        obtain ⟨Ao55, co55, eo55⟩ := Kd.V_slice HO_0.out
                        (first | subst eo55 | (injection eo55 with f1_ f2_ f3_; have f4_ := f1_.symm; have f5_ := f3_.symm; clear f1_ f2_ f3_; subst f4_; subst f5_))
                        have p440 : 0 ≤ (0 : Int) := (by omega)
                        have q440 : 0 < (x0_1.length : Int) := of_decide_eq_true (by first | (with_reducible assumption) | assumption)
                        obtain ⟨ad440, e440, hx440_0, hx440_1⟩ := at_T28 (Kd.V_reads' HO_0.out).2.2 0 p440 q440
                        cases e440
                        have qi440 : (0 < x0_1.length) = True := eq_true (by omega)
                        (try rw [show ((0 : Int)).toNat = 0 from rfl] at hx440_0)
                        (try rw [show 0 * 2 = 0 from rfl] at hx440_0)
                        (try rw [Addr.add_zero'] at hx440_0)
                        (try rw [show ((0 : Int)).toNat = 0 from rfl] at hx440_1)
                        (try rw [show 0 * 2 = 0 from rfl] at hx440_1)
                        (try rw [Addr.add_zero'] at hx440_1)
                        replace p440 := eq_true p440
                        replace q440 := eq_true q440
                        obtain ⟨Ao56, co56, eo56⟩ := Kd.V_slice HO_1.out
                        (first | subst eo56 | (injection eo56 with f1_ f2_ f3_; have f4_ := f1_.symm; have f5_ := f3_.symm; clear f1_ f2_ f3_; subst f4_; subst f5_))
                        have p441 : 0 ≤ (0 : Int) := (by omega)
                        have q441 : 0 < (x1_1.length : Int) := of_decide_eq_true (by first | (with_reducible assumption) | assumption)
                        obtain ⟨ad441, e441, hx441_0, hx441_1⟩ := at_T28 (Kd.V_reads' HO_1.out).2.2 0 p441 q441
                        cases e441
                        have qi441 : (0 < x1_1.length) = True := eq_true (by omega)
                        (try rw [show ((0 : Int)).toNat = 0 from rfl] at hx441_0)
                        (try rw [show 0 * 2 = 0 from rfl] at hx441_0)
                        (try rw [Addr.add_zero'] at hx441_0)
                        (try rw [show ((0 : Int)).toNat = 0 from rfl] at hx441_1)
                        (try rw [show 0 * 2 = 0 from rfl] at hx441_1)
                        (try rw [Addr.add_zero'] at hx441_1)
                        replace p441 := eq_true p441
                        replace q441 := eq_true q441
                        have p442 : 0 ≤ (0 : Int) := (by omega)
                        have q442 : 0 < (x0_1.length : Int) := of_decide_eq_true (by first | (with_reducible assumption) | assumption)
                        obtain ⟨ad442, e442, hx442_0, hx442_1⟩ := at_T28 (Kd.V_reads' HO_0.out).2.2 0 p442 q442
                        obtain rfl : ad440 = ad442 := (by injection e442)
                        have qi442 : (0 < x0_1.length) = True := eq_true (by omega)
                        (try rw [show ((0 : Int)).toNat = 0 from rfl] at hx442_0)
                        (try rw [show 0 * 2 = 0 from rfl] at hx442_0)
                        (try rw [Addr.add_zero'] at hx442_0)
                        (try rw [show ((0 : Int)).toNat = 0 from rfl] at hx442_1)
                        (try rw [show 0 * 2 = 0 from rfl] at hx442_1)
                        (try rw [Addr.add_zero'] at hx442_1)
                        replace p442 := eq_true p442
                        replace q442 := eq_true q442
                        have p443 : 0 ≤ (0 : Int) := (by omega)
                        have q443 : 0 < (x1_1.length : Int) := of_decide_eq_true (by first | (with_reducible assumption) | assumption)
                        obtain ⟨ad443, e443, hx443_0, hx443_1⟩ := at_T28 (Kd.V_reads' HO_1.out).2.2 0 p443 q443
                        obtain rfl : ad441 = ad443 := (by injection e443)
                        have qi443 : (0 < x1_1.length) = True := eq_true (by omega)
                        (try rw [show ((0 : Int)).toNat = 0 from rfl] at hx443_0)
                        (try rw [show 0 * 2 = 0 from rfl] at hx443_0)
                        (try rw [Addr.add_zero'] at hx443_0)
                        (try rw [show ((0 : Int)).toNat = 0 from rfl] at hx443_1)
                        (try rw [show 0 * 2 = 0 from rfl] at hx443_1)
                        (try rw [Addr.add_zero'] at hx443_1)
                        replace p443 := eq_true p443
                        replace q443 := eq_true q443
                        refine start_ (n := 21) (S := fun w' => w'.cell? ad440 = some (.int .i64 ((rd_T28 x0_1 0).f0)) ∧ w'.cell? ⟨ad440.block, ad440.off + 1, none⟩ = some (.int .i64 ((rd_T28 x0_1 0).f1)) ∧ w'.cell? ad441 = some (.int .i64 ((rd_T28 x1_1 0).f0)) ∧ w'.cell? ⟨ad441.block, ad441.off + 1, none⟩ = some (.int .i64 ((rd_T28 x1_1 0).f1)) ∧ w'.cell? ad440 = some (.int .i64 ((rd_T28 x0_1 0).f0)) ∧ w'.cell? ⟨ad440.block, ad440.off + 1, none⟩ = some (.int .i64 ((rd_T28 x0_1 0).f1)) ∧ w'.cell? ad441 = some (.int .i64 ((rd_T28 x1_1 0).f0)) ∧ w'.cell? ⟨ad441.block, ad441.off + 1, none⟩ = some (.int .i64 ((rd_T28 x1_1 0).f1))) (ds := []) #[false, false, false, false, false, false, false, false, false, false, false, false, false, false, false, false, false, false, false, false, false] (by kernel_rfl) rfl rfl ⟨hx440_0, hx440_1, hx441_0, hx441_1, hx442_0, hx442_1, hx443_0, hx443_1⟩ (fun hHeld => ?_); refine with_tabW interval_Intersect.tab6 interval_Intersect.bits6 (fun HT_ HW_ => ?_)
                        generalize wc.drew = w54 at HO_0 HO_1 HO_7 HB hx440_0 hx440_1 hx441_0 hx441_1 hx442_0 hx442_1 hx443_0 hx443_1 hHeld ⊢
                        refine pure_ (i := 0) (N := some 23) (v := ?_) (a' := ?_) #[true, false, false, false, false, false, false, false, false, false, false, false, false, false, false, false, false, false, false, false, false] rfl rfl (any_of HT_.out (by kernel_rfl)) (fun _ _ _ h => h) (Or.inl ⟨by rfl, ?_⟩) ?_ ?_
                        rotate_left
                        · intro w'
                          go_simp
                          with_reducible rfl
                        rotate_left
                        · simp only [Act.put, List.setIfInBounds_toArray, List.set_cons_zero, List.set_cons_succ, i64_w, i32_w]
                          rfl
                        refine pure_ (i := 1) (N := some 24) (v := ?_) (a' := ?_) #[true, true, false, false, false, false, false, false, false, false, false, false, false, false, false, false, false, false, false, false, false] rfl rfl (any_of HT_.out (by kernel_rfl)) (fun _ _ _ h => h) (Or.inl ⟨by rfl, ?_⟩) ?_ ?_
                        rotate_left
                        · intro w'
                          go_simp
                          with_reducible rfl
                        rotate_left
                        · simp only [Act.put, List.setIfInBounds_toArray, List.set_cons_zero, List.set_cons_succ, i64_w, i32_w]
                          rfl
                        refine pure_ (i := 2) (N := some 25) (v := ?_) (a' := ?_) #[true, true, true, false, false, false, false, false, false, false, false, false, false, false, false, false, false, false, false, false, false] rfl rfl (any_of HT_.out (by kernel_rfl)) (fun _ _ _ h => h) (Or.inl ⟨by rfl, ?_⟩) ?_ ?_
                        rotate_left
                        · intro w'
                          go_simp
                          with_reducible rfl
                        rotate_left
                        · simp only [Act.put, List.setIfInBounds_toArray, List.set_cons_zero, List.set_cons_succ, i64_w, i32_w]
                          rfl
                        refine pure_ (i := 4) (N := some 27) (v := ?_) (a' := ?_) #[true, true, true, false, true, false, false, false, false, false, false, false, false, false, false, false, false, false, false, false, false] rfl rfl (any_of HT_.out (by kernel_rfl)) (fun _ _ _ h => h) (Or.inl ⟨by rfl, ?_⟩) ?_ ?_
                        rotate_left
                        · intro w'
                          go_simp
                          with_reducible rfl
                        rotate_left
                        · simp only [Act.put, List.setIfInBounds_toArray, List.set_cons_zero, List.set_cons_succ, i64_w, i32_w]
                          rfl
                        refine pure_ (i := 5) (N := some 28) (v := ?_) (a' := ?_) #[true, true, true, false, true, true, false, false, false, false, false, false, false, false, false, false, false, false, false, false, false] rfl rfl (any_of HT_.out (by kernel_rfl)) (fun _ _ _ h => h) (Or.inl ⟨by rfl, ?_⟩) ?_ ?_
                        rotate_left
                        · intro w'
                          go_simp
                          with_reducible rfl
                        rotate_left
                        · simp only [Act.put, List.setIfInBounds_toArray, List.set_cons_zero, List.set_cons_succ, i64_w, i32_w]
                          rfl
                        refine pure_ (i := 6) (N := some 29) (v := ?_) (a' := ?_) #[true, true, true, false, true, true, true, false, false, false, false, false, false, false, false, false, false, false, false, false, false] rfl rfl (any_of HT_.out (by kernel_rfl)) (fun _ _ _ h => h) (Or.inl ⟨by rfl, ?_⟩) ?_ ?_
                        rotate_left
                        · intro w'
                          go_simp
                          with_reducible rfl
                        rotate_left
                        · simp only [Act.put, List.setIfInBounds_toArray, List.set_cons_zero, List.set_cons_succ, i64_w, i32_w]
                          rfl
                        refine pure_ (i := 9) (N := some 32) (v := ?_) (a' := ?_) #[true, true, true, false, true, true, true, false, false, true, false, false, false, false, false, false, false, false, false, false, false] rfl rfl (any_of HT_.out (by kernel_rfl)) (fun _ _ _ h => h) (Or.inl ⟨by rfl, ?_⟩) ?_ ?_
                        rotate_left
                        · intro w'
                          go_simp
                          with_reducible rfl
                        rotate_left
                        · simp only [Act.put, List.setIfInBounds_toArray, List.set_cons_zero, List.set_cons_succ, i64_w, i32_w]
                          rfl
                        refine pure_ (i := 10) (N := some 33) (v := ?_) (a' := ?_) #[true, true, true, false, true, true, true, false, false, true, true, false, false, false, false, false, false, false, false, false, false] rfl rfl (any_of HT_.out (by kernel_rfl)) (fun _ _ _ h => h) (Or.inl ⟨by rfl, ?_⟩) ?_ ?_
                        rotate_left
                        · intro w'
                          go_simp
                          with_reducible rfl
                        rotate_left
                        · simp only [Act.put, List.setIfInBounds_toArray, List.set_cons_zero, List.set_cons_succ, i64_w, i32_w]
                          rfl
                        refine pure_ (i := 11) (N := some 34) (v := ?_) (a' := ?_) #[true, true, true, false, true, true, true, false, false, true, true, true, false, false, false, false, false, false, false, false, false] rfl rfl (any_of HT_.out (by kernel_rfl)) (fun _ _ _ h => h) (Or.inl ⟨by rfl, ?_⟩) ?_ ?_
                        rotate_left
                        · intro w'
                          go_simp
                          with_reducible rfl
                        rotate_left
                        · simp only [Act.put, List.setIfInBounds_toArray, List.set_cons_zero, List.set_cons_succ, i64_w, i32_w]
                          rfl
                        refine pure_ (i := 13) (N := some 36) (v := ?_) (a' := ?_) #[true, true, true, false, true, true, true, false, false, true, true, true, false, true, false, false, false, false, false, false, false] rfl rfl (any_of HT_.out (by kernel_rfl)) (fun _ _ _ h => h) (Or.inl ⟨by rfl, ?_⟩) ?_ ?_
                        rotate_left
                        · intro w'
                          go_simp
                          with_reducible rfl
                        rotate_left
                        · simp only [Act.put, List.setIfInBounds_toArray, List.set_cons_zero, List.set_cons_succ, i64_w, i32_w]
                          rfl
                        refine pure_ (i := 14) (N := some 37) (v := ?_) (a' := ?_) #[true, true, true, false, true, true, true, false, false, true, true, true, false, true, true, false, false, false, false, false, false] rfl rfl (any_of HT_.out (by kernel_rfl)) (fun _ _ _ h => h) (Or.inl ⟨by rfl, ?_⟩) ?_ ?_
                        rotate_left
                        · intro w'
                          go_simp
                          with_reducible rfl
                        rotate_left
                        · simp only [Act.put, List.setIfInBounds_toArray, List.set_cons_zero, List.set_cons_succ, i64_w, i32_w]
                          rfl
                        refine pure_ (i := 15) (N := some 38) (v := ?_) (a' := ?_) #[true, true, true, false, true, true, true, false, false, true, true, true, false, true, true, true, false, false, false, false, false] rfl rfl (any_of HT_.out (by kernel_rfl)) (fun _ _ _ h => h) (Or.inl ⟨by rfl, ?_⟩) ?_ ?_
                        rotate_left
                        · intro w'
                          go_simp
                          with_reducible rfl
                        rotate_left
                        · simp only [Act.put, List.setIfInBounds_toArray, List.set_cons_zero, List.set_cons_succ, i64_w, i32_w]
                          rfl
                        refine take_ (i := 3) (N := some 26) (v := ?_) (a' := ?_) #[true, true, true, true, true, true, true, false, false, true, true, true, false, true, true, true, false, false, false, false, false] rfl rfl (take_ofW HT_.out HW_.out (by kernel_rfl)) (fun _ _ _ h => h) (Or.inl ⟨by rfl, ?_⟩) hHeld ?_ ?_
                        rotate_left
                        · rintro w' ⟨s0, s1, s2, s3, s4, s5, s6, s7⟩
                          go_simp
                          with_reducible rfl
                        rotate_left
                        · simp only [Act.put, List.setIfInBounds_toArray, List.set_cons_zero, List.set_cons_succ, i64_w, i32_w]
                          rfl
                        refine take_ (i := 7) (N := some 30) (v := ?_) (a' := ?_) #[true, true, true, true, true, true, true, true, false, true, true, true, false, true, true, true, false, false, false, false, false] rfl rfl (take_ofW HT_.out HW_.out (by kernel_rfl)) (fun _ _ _ h => h) (Or.inl ⟨by rfl, ?_⟩) hHeld ?_ ?_
                        rotate_left
                        · rintro w' ⟨s0, s1, s2, s3, s4, s5, s6, s7⟩
                          go_simp
                          with_reducible rfl
                        rotate_left
                        · simp only [Act.put, List.setIfInBounds_toArray, List.set_cons_zero, List.set_cons_succ, i64_w, i32_w]
                          rfl
                        refine pure_ (i := 8) (N := some 31) (v := ?_) (a' := ?_) #[true, true, true, true, true, true, true, true, true, true, true, true, false, true, true, true, false, false, false, false, false] rfl rfl (any_of HT_.out (by kernel_rfl)) (fun _ _ _ h => h) (Or.inl ⟨by rfl, ?_⟩) ?_ ?_
                        rotate_left
                        · intro w'
                          go_simp
                          with_reducible rfl
                        rotate_left
                        · simp only [Act.put, List.setIfInBounds_toArray, List.set_cons_zero, List.set_cons_succ, i64_w, i32_w]
                          rfl
                        refine take_ (i := 12) (N := some 35) (v := ?_) (a' := ?_) #[true, true, true, true, true, true, true, true, true, true, true, true, true, true, true, true, false, false, false, false, false] rfl rfl (take_ofW HT_.out HW_.out (by kernel_rfl)) (fun _ _ _ h => h) (Or.inl ⟨by rfl, ?_⟩) hHeld ?_ ?_
                        rotate_left
                        · rintro w' ⟨s0, s1, s2, s3, s4, s5, s6, s7⟩
                          go_simp
                          with_reducible rfl
                        rotate_left
                        · simp only [Act.put, List.setIfInBounds_toArray, List.set_cons_zero, List.set_cons_succ, i64_w, i32_w]
                          rfl
                        refine take_ (i := 16) (N := some 39) (v := ?_) (a' := ?_) #[true, true, true, true, true, true, true, true, true, true, true, true, true, true, true, true, true, false, false, false, false] rfl rfl (take_ofW HT_.out HW_.out (by kernel_rfl)) (fun _ _ _ h => h) (Or.inl ⟨by rfl, ?_⟩) hHeld ?_ ?_
                        rotate_left
                        · rintro w' ⟨s0, s1, s2, s3, s4, s5, s6, s7⟩
                          go_simp
                          with_reducible rfl
                        rotate_left
                        · simp only [Act.put, List.setIfInBounds_toArray, List.set_cons_zero, List.set_cons_succ, i64_w, i32_w]
                          rfl
                        refine pure_ (i := 17) (N := some 40) (v := ?_) (a' := ?_) #[true, true, true, true, true, true, true, true, true, true, true, true, true, true, true, true, true, true, false, false, false] rfl rfl (any_of HT_.out (by kernel_rfl)) (fun _ _ _ h => h) (Or.inl ⟨by rfl, ?_⟩) ?_ ?_
                        rotate_left
                        · intro w'
                          go_simp
                          with_reducible rfl
                        rotate_left
                        · simp only [Act.put, List.setIfInBounds_toArray, List.set_cons_zero, List.set_cons_succ, i64_w, i32_w]
                          rfl
                        refine pure_ (i := 18) (N := some 41) (v := ?_) (a' := ?_) #[true, true, true, true, true, true, true, true, true, true, true, true, true, true, true, true, true, true, true, false, false] rfl rfl (any_of HT_.out (by kernel_rfl)) (fun _ _ _ h => h) (Or.inl ⟨by rfl, ?_⟩) ?_ ?_
                        rotate_left
                        · intro w'
                          go_simp
                          with_reducible rfl
                        rotate_left
                        · simp only [Act.put, List.setIfInBounds_toArray, List.set_cons_zero, List.set_cons_succ, i64_w, i32_w]
                          rfl
                        refine one_ (i := 19) (N := some 8) #[true, true, true, true, true, true, true, true, true, true, true, true, true, true, true, true, true, true, true, true, false] rfl rfl (one_of HT_.out (by kernel_rfl)) (by decide) (fun K hK => ?_)
                        refine box_step ?hg (N := 8) ?hd (cs := #[.int .i64 0, .int .i64 0]) (t := 28) ?hr ?_; (case hd => rfl); (case hg => rfl); (case hr => first | (go_simp; done) | (go_simp; rfl))
                        intro gb444 hg w57 hbox hb
                        have HS0_ := (hb.cell (World.block_lt_of_cell? _ _ (hHeld.1))).trans (hHeld.1)
                        have HS1_ := (hb.cell (World.block_lt_of_cell? _ _ (hHeld.2.1))).trans (hHeld.2.1)
                        have HS2_ := (hb.cell (World.block_lt_of_cell? _ _ (hHeld.2.2.1))).trans (hHeld.2.2.1)
                        have HS3_ := (hb.cell (World.block_lt_of_cell? _ _ (hHeld.2.2.2.1))).trans (hHeld.2.2.2.1)
                        have HS4_ := (hb.cell (World.block_lt_of_cell? _ _ (hHeld.2.2.2.2.1))).trans (hHeld.2.2.2.2.1)
                        have HS5_ := (hb.cell (World.block_lt_of_cell? _ _ (hHeld.2.2.2.2.2.1))).trans (hHeld.2.2.2.2.2.1)
                        have HS6_ := (hb.cell (World.block_lt_of_cell? _ _ (hHeld.2.2.2.2.2.2.1))).trans (hHeld.2.2.2.2.2.2.1)
                        have HS7_ := (hb.cell (World.block_lt_of_cell? _ _ (hHeld.2.2.2.2.2.2.2))).trans (hHeld.2.2.2.2.2.2.2)
                        have n0_ := Aside0.mk (Kd.V_below (Kd.V_elderB (by (with_reducible repeat (first | apply Kd.V_alloc | apply Kd.V_drewN | apply Kd.V_drew)); exact HO_0.out) gb444 (Nat.le_of_eq hg.symm)) hb)
                        have n1_ := Aside0.mk (Kd.V_below (Kd.V_elderB (by (with_reducible repeat (first | apply Kd.V_alloc | apply Kd.V_drewN | apply Kd.V_drew)); exact HO_1.out) gb444 (Nat.le_of_eq hg.symm)) hb)
                        have n2_ := Aside0.mk (Kd.R_below (Kd.R_elderB (by (with_reducible repeat (first | apply Kd.R_alloc | apply Kd.R_drewN | apply Kd.R_drew)); exact HO_7.out) gb444 (Nat.le_of_eq hg.symm)) hb)
                        have n3_ := Aside0.mk (below_step (by repeat (first | (with_reducible first | exact HB.out | apply below_alloc | apply pw_below_drewN | apply below_drew1) | exact HB.out)) hb)
                        have n4_ := Aside0.mk (hbox)
                        have n5_ := Aside0.mk ((by rw [hg]; exact (below_size (by repeat (first | (with_reducible first | exact HB.out | apply below_alloc | apply pw_below_drewN | apply below_drew1) | exact HB.out))) : w.heap.size ≤ gb444))
                        have n6_ := Aside0.mk ((by rw [hg]; exact (below_size (by repeat (first | (with_reducible first | exact HB.out | apply below_alloc | apply pw_below_drewN | apply below_drew1) | exact HB.out))) : w.heap.size ≤ gb444))
                        clear HO_0
                        clear HO_1
                        clear HO_7
                        clear HB
                        have HO_0 := n0_
                        have HO_1 := n1_
                        have HO_7 := n2_
                        have HB := n3_
                        have BK444 := n4_
                        have GW444 := n5_
                        have GE444 := n6_
                        clear n0_ n1_ n2_ n3_ n4_ n5_ n6_
                        clear hb hbox hg
                        refine hK.out _ _ ⟨HS0_, HS1_, HS2_, HS3_, HS4_, HS5_, HS6_, HS7_⟩ (fun hHeld => ?_)
                        clear hK K
                        refine norm_ (a' := ?_) ?_ ?_
                        rotate_left
                        · show Act.put _ (some 8) _ = _
                          simp only [Act.put, List.setIfInBounds_toArray, List.set_cons_zero, List.set_cons_succ, i64_w, i32_w]
                          rfl
                        refine one_ (i := 20) (N := none) #[true, true, true, true, true, true, true, true, true, true, true, true, true, true, true, true, true, true, true, true, true] rfl rfl (one_of HT_.out (by kernel_rfl)) (by decide) (fun K hK => ?_)
                        have hs58 : w57.cell? ⟨gb444, 0, none⟩ = some (.int .i64 0) := (blk_cell BK444.out 0).trans rfl
                        have hfs58 := blk_frozen BK444.out 0
                        have hs59 : w57.cell? ⟨gb444, 1, none⟩ = some (.int .i64 0) := (blk_cell BK444.out 1).trans rfl
                        have hfs59 := blk_frozen BK444.out 1
                        refine skip_ (w1 := ?_) (by rfl) rfl ?_ ?_
                        rotate_left
                        · go_simp
                          rfl
                        have hne0_ : ad440.block ≠ gb444 := (V_block HO_0.out (of_decide_eq_true (by assumption)) (by decide)).2; have hne1_ : ad441.block ≠ gb444 := (V_block HO_1.out (of_decide_eq_true (by assumption)) (by decide)).2; refine hK.out _ _ ⟨((cell_far (p := ⟨gb444, _, none⟩) (by exact hne0_) _).trans (((cell_far (p := ⟨gb444, _, none⟩) (by exact hne0_) _).trans (hHeld.1)))), ((cell_far (p := ⟨gb444, _, none⟩) (by exact hne0_) _).trans (((cell_far (p := ⟨gb444, _, none⟩) (by exact hne0_) _).trans (hHeld.2.1)))), ((cell_far (p := ⟨gb444, _, none⟩) (by exact hne1_) _).trans (((cell_far (p := ⟨gb444, _, none⟩) (by exact hne1_) _).trans (hHeld.2.2.1)))), ((cell_far (p := ⟨gb444, _, none⟩) (by exact hne1_) _).trans (((cell_far (p := ⟨gb444, _, none⟩) (by exact hne1_) _).trans (hHeld.2.2.2.1)))), ((cell_far (p := ⟨gb444, _, none⟩) (by exact hne0_) _).trans (((cell_far (p := ⟨gb444, _, none⟩) (by exact hne0_) _).trans (hHeld.2.2.2.2.1)))), ((cell_far (p := ⟨gb444, _, none⟩) (by exact hne0_) _).trans (((cell_far (p := ⟨gb444, _, none⟩) (by exact hne0_) _).trans (hHeld.2.2.2.2.2.1)))), ((cell_far (p := ⟨gb444, _, none⟩) (by exact hne1_) _).trans (((cell_far (p := ⟨gb444, _, none⟩) (by exact hne1_) _).trans (hHeld.2.2.2.2.2.2.1)))), ((cell_far (p := ⟨gb444, _, none⟩) (by exact hne1_) _).trans (((cell_far (p := ⟨gb444, _, none⟩) (by exact hne1_) _).trans (hHeld.2.2.2.2.2.2.2))))⟩ (fun hHeld => ?_)
                        clear hK K
                        refine done_ (done_of HT_.out (by kernel_rfl)) ?_
                        have hcz60_0 : w57.cell? ⟨gb444, 0, none⟩ = some (.int .i64 0) := (blk_cell BK444.out 0).trans rfl
                        have hcz60_1 : w57.cell? ⟨gb444, 1, none⟩ = some (.int .i64 0) := (blk_cell BK444.out 1).trans rfl
                        have hfz60_0 := blk_frozen BK444.out 0
                        have hfz60_1 := blk_frozen BK444.out 1
                        try go_wp2
                        have n0_ : Aside0 (Kd.V k28 28 ((w57.setCell ⟨gb444, 0, none⟩ (.int .i64 ji14)).setCell ⟨gb444, 1, none⟩ (.int .i64 ji15)) w.heap.size (fun k_ => ((P0_ k_ ∨ P1_ k_) ∨ w.heap.size ≤ k_) ∧ some k_ ≠ (u7 : Value).ownBlock ∧ k_ ≠ gb444) (.slice (some ad440) x0_1.length co55) x0_1) := ⟨by (with_reducible repeat (first | apply Kd.V_alloc | apply Kd.V_drewN | apply Kd.V_drew)); exact Kd.V_mono (Kd.V_far (p := ⟨gb444, 1, none⟩) (Kd.V_far (p := ⟨gb444, 0, none⟩) (Kd.V_mono HO_0.out (fun k_ hk => (⟨hk, hk.2⟩ : _ ∧ k_ ≠ gb444))) (fun _ hk => hk.2) (.int .i64 ji14)) (fun _ hk => hk.2) (.int .i64 ji15)) (fun _ hk => ⟨hk.1.1.1, ⟨hk.1.1.2, hk.1.2⟩⟩)⟩
                        have n1_ : Aside0 (Kd.V k28 28 ((w57.setCell ⟨gb444, 0, none⟩ (.int .i64 ji14)).setCell ⟨gb444, 1, none⟩ (.int .i64 ji15)) w.heap.size (fun k_ => ((P0_ k_ ∨ P1_ k_) ∨ w.heap.size ≤ k_) ∧ some k_ ≠ (u7 : Value).ownBlock ∧ k_ ≠ gb444) (.slice (some ad441) x1_1.length co56) x1_1) := ⟨by (with_reducible repeat (first | apply Kd.V_alloc | apply Kd.V_drewN | apply Kd.V_drew)); exact Kd.V_mono (Kd.V_far (p := ⟨gb444, 1, none⟩) (Kd.V_far (p := ⟨gb444, 0, none⟩) (Kd.V_mono HO_1.out (fun k_ hk => (⟨hk, hk.2⟩ : _ ∧ k_ ≠ gb444))) (fun _ hk => hk.2) (.int .i64 ji14)) (fun _ hk => hk.2) (.int .i64 ji15)) (fun _ hk => ⟨hk.1.1.1, ⟨hk.1.1.2, hk.1.2⟩⟩)⟩
                        have n2_ : Aside0 (Kd.R k28 28 ((w57.setCell ⟨gb444, 0, none⟩ (.int .i64 ji14)).setCell ⟨gb444, 1, none⟩ (.int .i64 ji15)) w.heap.size (fun k_ => (w.heap.size ≤ k_) ∧ k_ ≠ gb444) u7 x7_1) := ⟨by (with_reducible repeat (first | apply Kd.R_alloc | apply Kd.R_drewN | apply Kd.R_drew)); exact Kd.R_mono (Kd.R_far (p := ⟨gb444, 1, none⟩) (Kd.R_far (p := ⟨gb444, 0, none⟩) (Kd.R_mono HO_7.out (fun k_ hk => (⟨hk, hk.2⟩ : _ ∧ k_ ≠ gb444))) (fun _ hk => hk.2) (.int .i64 ji14)) (fun _ hk => hk.2) (.int .i64 ji15)) (fun _ hk => ⟨hk.1.1, hk.1.2⟩)⟩
                        have n3_ : Aside0 (((w57.setCell ⟨gb444, 0, none⟩ (.int .i64 ji14)).setCell ⟨gb444, 1, none⟩ (.int .i64 ji15)).heap[gb444]? = some (.cells #[.int .i64 ji14, .int .i64 ji15] 28 (0, 0))) := ⟨by (with_reducible repeat (first | refine blk_drewN ?_ _ | refine blk_drew ?_ | refine blk_alloc ?_ _)); refine blk_put (cs := #[.int .i64 ji14, .int .i64 0]) ?_ 1 _ rfl; (with_reducible repeat (first | refine blk_drewN ?_ _ | refine blk_drew ?_ | refine blk_alloc ?_ _)); refine blk_put (cs := #[.int .i64 0, .int .i64 0]) ?_ 0 _ rfl; (with_reducible repeat (first | refine blk_drewN ?_ _ | refine blk_drew ?_ | refine blk_alloc ?_ _)); exact BK444.out⟩
                        have n4_ : Aside0 (Below w.heap.size w ((w57.setCell ⟨gb444, 0, none⟩ (.int .i64 ji14)).setCell ⟨gb444, 1, none⟩ (.int .i64 ji15))) := ⟨by repeat (first | (with_reducible first | exact HB.out | apply below_alloc | apply pw_below_drewN | apply below_drew1 | refine below_set ?_ GE444.out) | exact HB.out)⟩
                        (try clear HO_0)
                        (try clear HO_1)
                        (try clear HO_7)
                        (try clear BK444)
                        (try clear HB)
                        generalize ((w57.setCell ⟨gb444, 0, none⟩ (.int .i64 ji14)).setCell ⟨gb444, 1, none⟩ (.int .i64 ji15)) = w61 at n0_ n1_ n2_ n3_ n4_ ⊢
                        have HO_0 := n0_
                        have HO_1 := n1_
                        have HO_7 := n2_
                        have BK444 := n3_
                        have HB := n4_
                        clear n0_ n1_ n2_ n3_ n4_
                        have n0_ := Aside0.mk (Kd.V_drew HO_0.out)
                        have n1_ := Aside0.mk (Kd.V_drew HO_1.out)
                        have n2_ := Aside0.mk (Kd.R_drew HO_7.out)
                        have n3_ := Aside0.mk (blk_drew BK444.out)
                        have n4_ := Aside0.mk (below_drew1 HB.out)
                        clear HO_0
                        clear HO_1
                        clear HO_7
                        clear BK444
                        clear HB
                        have HO_0 := n0_
                        have HO_1 := n1_
                        have HO_7 := n2_
                        have BK444 := n3_
                        have HB := n4_
                        clear n0_ n1_ n2_ n3_ n4_
                        have p460 : 0 ≤ (0 : Int) := (by omega)
                        have q460 : 0 < (x0_1.length : Int) := of_decide_eq_true (by first | (with_reducible assumption) | assumption)
                        obtain ⟨ad460, e460, hx460_0, hx460_1⟩ := at_T28 (Kd.V_reads' HO_0.out).2.2 0 p460 q460
                        obtain rfl : ad440 = ad460 := (by injection e460)
                        have qi460 : (0 < x0_1.length) = True := eq_true (by omega)
                        (try rw [show ((0 : Int)).toNat = 0 from rfl] at hx460_0)
                        (try rw [show 0 * 2 = 0 from rfl] at hx460_0)
                        (try rw [Addr.add_zero'] at hx460_0)
                        (try rw [show ((0 : Int)).toNat = 0 from rfl] at hx460_1)
                        (try rw [show 0 * 2 = 0 from rfl] at hx460_1)
                        (try rw [Addr.add_zero'] at hx460_1)
                        replace p460 := eq_true p460
                        replace q460 := eq_true q460
                        have p461 : 0 ≤ (0 : Int) := (by omega)
                        have q461 : 0 < (x1_1.length : Int) := of_decide_eq_true (by first | (with_reducible assumption) | assumption)
                        obtain ⟨ad461, e461, hx461_0, hx461_1⟩ := at_T28 (Kd.V_reads' HO_1.out).2.2 0 p461 q461
                        obtain rfl : ad441 = ad461 := (by injection e461)
                        have qi461 : (0 < x1_1.length) = True := eq_true (by omega)
                        (try rw [show ((0 : Int)).toNat = 0 from rfl] at hx461_0)
                        (try rw [show 0 * 2 = 0 from rfl] at hx461_0)
                        (try rw [Addr.add_zero'] at hx461_0)
                        (try rw [show ((0 : Int)).toNat = 0 from rfl] at hx461_1)
                        (try rw [show 0 * 2 = 0 from rfl] at hx461_1)
                        (try rw [Addr.add_zero'] at hx461_1)
                        replace p461 := eq_true p461
                        replace q461 := eq_true q461
                        refine start_ (n := 9) (S := fun w' => w'.cell? ad440 = some (.int .i64 ((rd_T28 x0_1 0).f0)) ∧ w'.cell? ⟨ad440.block, ad440.off + 1, none⟩ = some (.int .i64 ((rd_T28 x0_1 0).f1)) ∧ w'.cell? ad441 = some (.int .i64 ((rd_T28 x1_1 0).f0)) ∧ w'.cell? ⟨ad441.block, ad441.off + 1, none⟩ = some (.int .i64 ((rd_T28 x1_1 0).f1))) (ds := []) #[false, false, false, false, false, false, false, false, false] (by kernel_rfl) rfl rfl ⟨hx460_0, hx460_1, hx461_0, hx461_1⟩ (fun hHeld => ?_); refine with_tabW interval_Intersect.tab9 interval_Intersect.bits9 (fun HT_ HW_ => ?_)
                        generalize w61.drew = w62 at HO_0 HO_1 HO_7 BK444 HB hx460_0 hx460_1 hx461_0 hx461_1 hHeld ⊢
                        refine pure_ (i := 0) (N := some 51) (v := ?_) (a' := ?_) #[true, false, false, false, false, false, false, false, false] rfl rfl (any_of HT_.out (by kernel_rfl)) (fun _ _ _ h => h) (Or.inl ⟨by rfl, ?_⟩) ?_ ?_
                        rotate_left
                        · intro w'
                          go_simp
                          with_reducible rfl
                        rotate_left
                        · simp only [Act.put, List.setIfInBounds_toArray, List.set_cons_zero, List.set_cons_succ, i64_w, i32_w]
                          rfl
                        refine pure_ (i := 1) (N := some 52) (v := ?_) (a' := ?_) #[true, true, false, false, false, false, false, false, false] rfl rfl (any_of HT_.out (by kernel_rfl)) (fun _ _ _ h => h) (Or.inl ⟨by rfl, ?_⟩) ?_ ?_
                        rotate_left
                        · intro w'
                          go_simp
                          with_reducible rfl
                        rotate_left
                        · simp only [Act.put, List.setIfInBounds_toArray, List.set_cons_zero, List.set_cons_succ, i64_w, i32_w]
                          rfl
                        refine pure_ (i := 2) (N := some 53) (v := ?_) (a' := ?_) #[true, true, true, false, false, false, false, false, false] rfl rfl (any_of HT_.out (by kernel_rfl)) (fun _ _ _ h => h) (Or.inl ⟨by rfl, ?_⟩) ?_ ?_
                        rotate_left
                        · intro w'
                          go_simp
                          with_reducible rfl
                        rotate_left
                        · simp only [Act.put, List.setIfInBounds_toArray, List.set_cons_zero, List.set_cons_succ, i64_w, i32_w]
                          rfl
                        refine pure_ (i := 4) (N := some 55) (v := ?_) (a' := ?_) #[true, true, true, false, true, false, false, false, false] rfl rfl (any_of HT_.out (by kernel_rfl)) (fun _ _ _ h => h) (Or.inl ⟨by rfl, ?_⟩) ?_ ?_
                        rotate_left
                        · intro w'
                          go_simp
                          with_reducible rfl
                        rotate_left
                        · simp only [Act.put, List.setIfInBounds_toArray, List.set_cons_zero, List.set_cons_succ, i64_w, i32_w]
                          rfl
                        refine pure_ (i := 5) (N := some 56) (v := ?_) (a' := ?_) #[true, true, true, false, true, true, false, false, false] rfl rfl (any_of HT_.out (by kernel_rfl)) (fun _ _ _ h => h) (Or.inl ⟨by rfl, ?_⟩) ?_ ?_
                        rotate_left
                        · intro w'
                          go_simp
                          with_reducible rfl
                        rotate_left
                        · simp only [Act.put, List.setIfInBounds_toArray, List.set_cons_zero, List.set_cons_succ, i64_w, i32_w]
                          rfl
                        refine pure_ (i := 6) (N := some 57) (v := ?_) (a' := ?_) #[true, true, true, false, true, true, true, false, false] rfl rfl (any_of HT_.out (by kernel_rfl)) (fun _ _ _ h => h) (Or.inl ⟨by rfl, ?_⟩) ?_ ?_
                        rotate_left
                        · intro w'
                          go_simp
                          with_reducible rfl
                        rotate_left
                        · simp only [Act.put, List.setIfInBounds_toArray, List.set_cons_zero, List.set_cons_succ, i64_w, i32_w]
                          rfl
                        refine take_ (i := 3) (N := some 54) (v := ?_) (a' := ?_) #[true, true, true, true, true, true, true, false, false] rfl rfl (take_ofW HT_.out HW_.out (by kernel_rfl)) (fun _ _ _ h => h) (Or.inl ⟨by rfl, ?_⟩) hHeld ?_ ?_
                        rotate_left
                        · rintro w' ⟨s0, s1, s2, s3⟩
                          go_simp
                          with_reducible rfl
                        rotate_left
                        · simp only [Act.put, List.setIfInBounds_toArray, List.set_cons_zero, List.set_cons_succ, i64_w, i32_w]
                          rfl
                        refine take_ (i := 7) (N := some 58) (v := ?_) (a' := ?_) #[true, true, true, true, true, true, true, true, false] rfl rfl (take_ofW HT_.out HW_.out (by kernel_rfl)) (fun _ _ _ h => h) (Or.inl ⟨by rfl, ?_⟩) hHeld ?_ ?_
                        rotate_left
                        · rintro w' ⟨s0, s1, s2, s3⟩
                          go_simp
                          with_reducible rfl
                        rotate_left
                        · simp only [Act.put, List.setIfInBounds_toArray, List.set_cons_zero, List.set_cons_succ, i64_w, i32_w]
                          rfl
                        refine pure_ (i := 8) (N := some 59) (v := ?_) (a' := ?_) #[true, true, true, true, true, true, true, true, true] rfl rfl (any_of HT_.out (by kernel_rfl)) (fun _ _ _ h => h) (Or.inl ⟨by rfl, ?_⟩) ?_ ?_
                        rotate_left
                        · intro w'
                          go_simp
                          with_reducible rfl
                        rotate_left
                        · simp only [Act.put, List.setIfInBounds_toArray, List.set_cons_zero, List.set_cons_succ, i64_w, i32_w]
                          rfl
                        refine done_ (done_of HT_.out (by kernel_rfl)) ?_
                        have q63 : (1 : Int) ≤ ((x1_1.length : Int) : Int) := of_decide_eq_true (by first | (with_reducible assumption) | assumption)
                        obtain ⟨i063, hi063, _, hsz63, _⟩ := info_parts info28
                        have hroom63 : x1_1.length ≤ co56 := (Kd.V_reads' HO_1.out).2.1
                        have hC63 : Kd.F k28 _ _ (some ad441) x1_1.length x1_1 := (Kd.V_at (base := w.heap.size) HO_1.out).2.2
                        have hcut63 := cut_from (P := Try.prog) 22 28 .i64 Try.underlying22 hi063 2 hsz63 (some ad441) x1_1.length co56 1 (by omega) q63
                        have hr63 := Kd.F_cut (m := (1 : Int).toNat) (c := co56) hC63 (by omega) hroom63
                        obtain ⟨A63, hA63⟩ : ∃ A1, A1 = (if co56 = (1 : Int).toNat then (some ad441) else ((some ad441) : Option Addr).map (·.add ((1 : Int).toNat * 2))) := ⟨_, rfl⟩
                        obtain ⟨c63, hc63⟩ : ∃ c1, c1 = co56 - (1 : Int).toNat := ⟨_, rfl⟩
                        have hy63 : y467.length = x1_1.length - (1 : Int).toNat := (by rw [Ny467.out, List.length_drop] <;> omega)
                        rw [show (x1_1).drop (1 : Int).toNat = y467 from Ny467.out.symm] at hr63
                        replace hr63 : Kd.F k28 _ _ A63 y467.length y467 := (by rw [hA63]; exact hr63)
                        rw [← hy63, ← hA63, ← hc63] at hcut63
                        have HO471 := Aside0.mk (show Kd.V k28 28 _ w.heap.size _ (.slice A63 y467.length c63) y467 from Kd.V_mk (by rw [hy63, hc63]; exact Nat.sub_le_sub_right hroom63 _) hr63)
                        have HC471 := Aside0.mk (show y467.length ≤ c63 from by rw [hy63, hc63]; exact Nat.sub_le_sub_right hroom63 _)
                        clear hr63 hC63 hroom63 hi063 hsz63 hc63
                        have KY63 := Aside0.mk hy63
                        have KA63 := Aside0.mk hA63
                        clear hy63 hA63
                        replace q63 := eq_true q63
                        try go_wp2
                        go_roundg kj5
                        case measure => have := HK1.out; have := HJ5.out; omega
                        case rel => exact ⟨(x0_1), (y467), (x7_1), H', ⟨by have := HK1.out; have := HJ5.out; omega⟩, ⟨by (with_reducible repeat (first | apply Kd.V_alloc | apply Kd.V_drewN | apply Kd.V_drew)); exact Kd.V_mono HO_0.out (fun _ hk => ⟨hk.1, hk.2.1⟩)⟩, ⟨by (with_reducible repeat (first | apply Kd.V_alloc | apply Kd.V_drewN | apply Kd.V_drew)); exact Kd.V_mono HO471.out (fun _ hk => ⟨hk.1, hk.2.1⟩)⟩, ⟨by (with_reducible repeat (first | apply Kd.R_alloc | apply Kd.R_drewN | apply Kd.R_drew)); exact Kd.R_mono HO_7.out (fun _ hk => hk.1)⟩, ⟨by repeat (first | (with_reducible first | exact HB.out | apply below_alloc | apply pw_below_drewN | apply below_drew1 | refine below_set ?_ GE444.out) | exact HB.out)⟩⟩
                      · rw [if_neg c53] at H
                        exact absurd H (by simp)
                · rw [if_neg c13] at H
                  exact absurd H (by simp)
              · rw [if_neg c12] at H
                exact absurd H (by simp)
            · replace c11 := Bool.eq_false_iff.mpr c11
              subst c11
              have H1 : (some (x7_1, 0)) = some (r1, r2) := by rw [if_neg (show ¬ (false = true) by decide)] at H; exact H
              clear H
              have H := H1
              clear H1
              simp only [Option.some.injEq, Prod.mk.injEq] at H
              obtain ⟨rfl, rfl⟩ := H
              go_wp2
              go_ret2
              exact ⟨_, by first | rfl | (simp [errW_none, errW_some] <;> rfl) | (simp [*, errW_none, errW_some] <;> rfl), by (with_reducible repeat (first | apply Kd.R_alloc | apply Kd.R_drewN | apply Kd.R_drew)); exact HO_7.out, by repeat (first | (with_reducible first | exact HB.out | apply below_alloc | apply pw_below_drewN | apply below_drew1) | exact HB.out)⟩
  · rw [if_neg c4] at H
    have c4b0 : (t439 == 0) = false := beq_eq_false_iff_ne.mpr c4
    have c4b1 : (t439 != 0) = true := bne_iff_ne.mpr c4
    simp only [Option.some.injEq, Prod.mk.injEq] at H
    obtain ⟨rfl, rfl⟩ := H
    go_enter Try.func29, Try.ntmps29
    go_wp2_with (first | ((with_reducible refine gate_callee (f := 45) rfl ?_); refine goesL_ (some 11) rfl rfl Try.func45 (by kernel_rfl) rfl #[.slice A0 l0.length c0, .slice A1 l1.length c1] rfl (by (try simp only [List.map_toArray, List.map_cons, List.map_nil]); first | done | rfl | (simp only [List.length_drop, List.length_take]; rfl)) ?_; (with_reducible refine (interval_both.calls k _ _ l0 _ _ l1 t439 _ ?side1 ?side2 ?side3 ?side4 A3.out).mono ?_); (case side1 => repeat (first | exact (Kd.V_reads' HO0.out).2.2 | (with_reducible refine Kd.C_alloc ?_ _) | (with_reducible refine Kd.C_drewN ?_ _) | (with_reducible refine Kd.C_drew ?_))); (case side2 => exact (Kd.V_reads' HO0.out).2.1); (case side3 => repeat (first | exact (Kd.V_reads' HO1.out).2.2 | (with_reducible refine Kd.C_alloc ?_ _) | (with_reducible refine Kd.C_drewN ?_ _) | (with_reducible refine Kd.C_drew ?_))); (case side4 => exact (Kd.V_reads' HO1.out).2.1); rintro e w64 ⟨rfl, hb⟩; refine ⟨_, rfl, ?_⟩; have n0_ := Aside0.mk (Kd.V_below (by (with_reducible repeat (first | apply Kd.V_alloc | apply Kd.V_drewN | apply Kd.V_drew)); exact HO0.out) hb); have n1_ := Aside0.mk (Kd.V_below (by (with_reducible repeat (first | apply Kd.V_alloc | apply Kd.V_drewN | apply Kd.V_drew)); exact HO1.out) hb); have n2_ := Aside0.mk (below_step (by repeat (first | (with_reducible first | exact HB.out | apply below_alloc | apply pw_below_drewN | apply below_drew1) | exact HB.out)) hb); clear HO0; clear HO1; clear HB; have HO0 := n0_; have HO1 := n1_; have HB := n2_; clear n0_ n1_ n2_; (try clear hb); (try clear hb2); (try clear hk); (try clear hi)))
    go_ret2
    exact ⟨_, by first | rfl | (simp [errW_none, errW_some] <;> rfl) | (simp [*, errW_none, errW_some] <;> rfl), by first | exact Kd.R_nil _ _ _ _ _ | exact Kd.N_nil _ _ _ _ _ | exact Kd.V_nil _ _ _ _ _ | exact Kd.Q_nil _ _ _ _ _ | exact Kd.S_nil _ _ _ _ _, by repeat (first | (with_reducible first | exact HB.out | apply below_alloc | apply pw_below_drewN | apply below_drew1) | exact HB.out)⟩

end Go.Proofs.Ytkgknibciclmjaa.I

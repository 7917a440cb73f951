-- Written by a program of this session (own_print.py) that runs the kit's printer. Lean checks it.
import Derived.Test.YtfobedaepflidaaF0
import Derived.Test.YtfobedaepflidaaF10
namespace Go.Proofs.Ytfobedaepflidaa.F
open Go.RowKit Go.Proofs.YtfobedaepflidaaW.PrintWords Go.Proofs.YtfobedaepflidaaW.PrintLast Go.Proofs.YtfobedaepflidaaW.PrintMore
attribute [local go_sem] max2_int min2_int max_two min_two max_three min_three max_four min_four   -- for this text's walks alone
set_option linter.unusedVariables false
set_option linter.unusedSimpArgs false

attribute [local go_sem ↓ high] ld23a sv23a
attribute [local go_sem high] ld23 sv23
/-! ### estoversref26_waited: function 27 -/
def estoversref26_waited.f (s0_0 : Bool) (s0_1 : Bool) (s0_2 : Int) (s0_3 : Bool) (s0_4 : Bool) (s0_5 : Bool) (s0_6 : Bool) (s0_7 : Int) (s0_8 : Bool) (s0_9 : Bool) (s0_10 : Bool) (s0_11 : Bool) (s0_12 : Bool) (s0_13 : Bool) (s0_14 : Bool) (s0_15 : Bool) (s0_16 : Int) (a1 : Int) : Option (Bool × Bool × Int × Bool × Bool × Bool × Bool × Int × Bool × Bool × Bool × Bool × Bool × Bool × Bool × Bool × Int) := if a1 = 4 then (some (s0_0, s0_1, s0_2, s0_3, s0_4, s0_5, false, s0_7, s0_8, s0_9, s0_10, s0_11, s0_12, s0_13, s0_14, s0_15, s0_16)) else (if a1 = 3 then (if s0_7 = 3 then (some (s0_0, s0_1, s0_2, s0_3, s0_4, s0_5, s0_6, 1, s0_8, false, s0_10, s0_11, s0_12, s0_13, s0_14, s0_15, s0_16)) else (some (s0_0, s0_1, s0_2, s0_3, s0_4, s0_5, s0_6, s0_7, s0_8, false, s0_10, s0_11, s0_12, s0_13, s0_14, s0_15, s0_16))) else (if a1 = 5 then (some (s0_0, s0_1, s0_2, s0_3, s0_4, s0_5, s0_6, s0_7, s0_8, s0_9, s0_10, s0_11, s0_12, s0_13, s0_14, false, s0_16)) else (some (s0_0, s0_1, s0_2, s0_3, s0_4, s0_5, s0_6, s0_7, s0_8, s0_9, s0_10, s0_11, s0_12, s0_13, s0_14, s0_15, s0_16))))
set_option maxHeartbeats 8000000 in
set_option maxRecDepth 100000 in
theorem estoversref26_waited.calls (g : Nat) (s0_0 : Bool) (s0_1 : Bool) (s0_2 : Int) (s0_3 : Bool) (s0_4 : Bool) (s0_5 : Bool) (s0_6 : Bool) (s0_7 : Int) (s0_8 : Bool) (s0_9 : Bool) (s0_10 : Bool) (s0_11 : Bool) (s0_12 : Bool) (s0_13 : Bool) (s0_14 : Bool) (s0_15 : Bool) (s0_16 : Int) (a1 : Int) (r1 : Bool) (r2 : Bool) (r3 : Int) (r4 : Bool) (r5 : Bool) (r6 : Bool) (r7 : Bool) (r8 : Int) (r9 : Bool) (r10 : Bool) (r11 : Bool) (r12 : Bool) (r13 : Bool) (r14 : Bool) (r15 : Bool) (r16 : Bool) (r17 : Int) (w0 w : World) (hI : IsS23 w0 w g s0_0 s0_1 s0_2 s0_3 s0_4 s0_5 s0_6 s0_7 s0_8 s0_9 s0_10 s0_11 s0_12 s0_13 s0_14 s0_15 s0_16) (hB : Below w0.heap.size w0 w) (h : estoversref26_waited.f s0_0 s0_1 s0_2 s0_3 s0_4 s0_5 s0_6 s0_7 s0_8 s0_9 s0_10 s0_11 s0_12 s0_13 s0_14 s0_15 s0_16 a1 = some (r1, r2, r3, r4, r5, r6, r7, r8, r9, r10, r11, r12, r13, r14, r15, r16, r17)) :
    Calls Try.prog 27 #[.pointer (some ⟨g, 0, none⟩), .int .i64 a1] w fun e w' => e = .returned (.tuple #[]) ∧ IsS23 w0 w' g r1 r2 r3 r4 r5 r6 r7 r8 r9 r10 r11 r12 r13 r14 r15 r16 r17 ∧ Below w0.heap.size w0 w' ∧ KeepBut w w' g none := by
  have HI0 := Aside0.mk hI
  have HK := Aside0.mk (KeepBut.refl w g none)
  have HL := Aside0.mk hB.size
  clear hI
  have HW0 := Aside0.mk hB.size
  have HB := Aside0.mk hB
  clear hB
  have H : (if a1 = 4 then (some (s0_0, s0_1, s0_2, s0_3, s0_4, s0_5, false, s0_7, s0_8, s0_9, s0_10, s0_11, s0_12, s0_13, s0_14, s0_15, s0_16)) else (if a1 = 3 then (if s0_7 = 3 then (some (s0_0, s0_1, s0_2, s0_3, s0_4, s0_5, s0_6, 1, s0_8, false, s0_10, s0_11, s0_12, s0_13, s0_14, s0_15, s0_16)) else (some (s0_0, s0_1, s0_2, s0_3, s0_4, s0_5, s0_6, s0_7, s0_8, false, s0_10, s0_11, s0_12, s0_13, s0_14, s0_15, s0_16))) else (if a1 = 5 then (some (s0_0, s0_1, s0_2, s0_3, s0_4, s0_5, s0_6, s0_7, s0_8, s0_9, s0_10, s0_11, s0_12, s0_13, s0_14, false, s0_16)) else (some (s0_0, s0_1, s0_2, s0_3, s0_4, s0_5, s0_6, s0_7, s0_8, s0_9, s0_10, s0_11, s0_12, s0_13, s0_14, s0_15, s0_16))))) = some (r1, r2, r3, r4, r5, r6, r7, r8, r9, r10, r11, r12, r13, r14, r15, r16, r17) := h
  clear h
  by_cases c3 : a1 = 4
  · rw [if_pos c3] at H
    have c3b0 : (a1 == 4) = true := beq_iff_eq.mpr c3
    have c3b1 : (a1 != 4) = false := bne_eq_false_iff_eq.mpr c3
    clear c3
    simp only [Option.some.injEq, Prod.mk.injEq] at H
    obtain ⟨rfl, rfl, rfl, rfl, rfl, rfl, rfl, rfl, rfl, rfl, rfl, rfl, rfl, rfl, rfl, rfl, rfl⟩ := H
    obtain ⟨HGz4, hgz4⟩ := HI0.out
    have hcz4_0 := cellS23_0 HGz4
    have hcz4_1 := cellS23_1 HGz4
    have hcz4_2 := cellS23_2 HGz4
    have hcz4_3 := cellS23_3 HGz4
    have hcz4_4 := cellS23_4 HGz4
    have hcz4_5 := cellS23_5 HGz4
    have hcz4_6 := cellS23_6 HGz4
    have hcz4_7 := cellS23_7 HGz4
    have hcz4_8 := cellS23_8 HGz4
    have hcz4_9 := cellS23_9 HGz4
    have hcz4_10 := cellS23_10 HGz4
    have hcz4_11 := cellS23_11 HGz4
    have hcz4_12 := cellS23_12 HGz4
    have hcz4_13 := cellS23_13 HGz4
    have hcz4_14 := cellS23_14 HGz4
    have hcz4_15 := cellS23_15 HGz4
    have hcz4_16 := cellS23_16 HGz4
    have hfz4_0 := blk_frozen HGz4 0
    have hfz4_1 := blk_frozen HGz4 1
    have hfz4_2 := blk_frozen HGz4 2
    have hfz4_3 := blk_frozen HGz4 3
    have hfz4_4 := blk_frozen HGz4 4
    have hfz4_5 := blk_frozen HGz4 5
    have hfz4_6 := blk_frozen HGz4 6
    have hfz4_7 := blk_frozen HGz4 7
    have hfz4_8 := blk_frozen HGz4 8
    have hfz4_9 := blk_frozen HGz4 9
    have hfz4_10 := blk_frozen HGz4 10
    have hfz4_11 := blk_frozen HGz4 11
    have hfz4_12 := blk_frozen HGz4 12
    have hfz4_13 := blk_frozen HGz4 13
    have hfz4_14 := blk_frozen HGz4 14
    have hfz4_15 := blk_frozen HGz4 15
    have hfz4_16 := blk_frozen HGz4 16
    clear HGz4 hgz4
    go_enter Try.func27, Try.ntmps27
    go_wp2
    first | go_end0 | ((try simp only [Exit.inBlock, Exit.then]); refine bodyPost_ret (results_none rfl _ _ _) rfl ?_)
    exact ⟨by first | rfl | (simp [errW_none, errW_some] <;> rfl) | (simp [*, errW_none, errW_some] <;> rfl), by repeat (first | (with_reducible first | exact HI0.out | apply IsS23.alloc | apply IsS23.drewN | apply IsS23.drew | apply IsS23.set_0 | apply IsS23.set_1 | apply IsS23.set_2 | apply IsS23.set_3 | apply IsS23.set_4 | apply IsS23.set_5 | apply IsS23.set_6 | apply IsS23.set_7 | apply IsS23.set_8 | apply IsS23.set_9 | apply IsS23.set_10 | apply IsS23.set_11 | apply IsS23.set_12 | apply IsS23.set_13 | apply IsS23.set_14 | apply IsS23.set_15 | apply IsS23.set_16) | exact HI0.out), by repeat (first | (with_reducible first | exact HB.out | apply below_alloc | apply pw_below_drewN | apply below_drew1 | refine below_set ?_ (IsS23.ge HI0.out)) | exact HB.out), by repeat (first | (with_reducible first | exact HK.out | apply KeepBut.set_ | apply keep_drewN | apply keep_drew | apply keep_alloc) | exact HK.out)⟩
  · rw [if_neg c3] at H
    have c3b0 : (a1 == 4) = false := beq_eq_false_iff_ne.mpr c3
    have c3b1 : (a1 != 4) = true := bne_iff_ne.mpr c3
    by_cases c5 : a1 = 3
    · rw [if_pos c5] at H
      have c5b0 : (a1 == 3) = true := beq_iff_eq.mpr c5
      have c5b1 : (a1 != 3) = false := bne_eq_false_iff_eq.mpr c5
      clear c5
      by_cases c6 : s0_7 = 3
      · rw [if_pos c6] at H
        have c6b0 : (s0_7 == 3) = true := beq_iff_eq.mpr c6
        have c6b1 : (s0_7 != 3) = false := bne_eq_false_iff_eq.mpr c6
        clear c6
        simp only [Option.some.injEq, Prod.mk.injEq] at H
        obtain ⟨rfl, rfl, rfl, rfl, rfl, rfl, rfl, rfl, rfl, rfl, rfl, rfl, rfl, rfl, rfl, rfl, rfl⟩ := H
        obtain ⟨HGz7, hgz7⟩ := HI0.out
        have hcz7_0 := cellS23_0 HGz7
        have hcz7_1 := cellS23_1 HGz7
        have hcz7_2 := cellS23_2 HGz7
        have hcz7_3 := cellS23_3 HGz7
        have hcz7_4 := cellS23_4 HGz7
        have hcz7_5 := cellS23_5 HGz7
        have hcz7_6 := cellS23_6 HGz7
        have hcz7_7 := cellS23_7 HGz7
        have hcz7_8 := cellS23_8 HGz7
        have hcz7_9 := cellS23_9 HGz7
        have hcz7_10 := cellS23_10 HGz7
        have hcz7_11 := cellS23_11 HGz7
        have hcz7_12 := cellS23_12 HGz7
        have hcz7_13 := cellS23_13 HGz7
        have hcz7_14 := cellS23_14 HGz7
        have hcz7_15 := cellS23_15 HGz7
        have hcz7_16 := cellS23_16 HGz7
        have hfz7_0 := blk_frozen HGz7 0
        have hfz7_1 := blk_frozen HGz7 1
        have hfz7_2 := blk_frozen HGz7 2
        have hfz7_3 := blk_frozen HGz7 3
        have hfz7_4 := blk_frozen HGz7 4
        have hfz7_5 := blk_frozen HGz7 5
        have hfz7_6 := blk_frozen HGz7 6
        have hfz7_7 := blk_frozen HGz7 7
        have hfz7_8 := blk_frozen HGz7 8
        have hfz7_9 := blk_frozen HGz7 9
        have hfz7_10 := blk_frozen HGz7 10
        have hfz7_11 := blk_frozen HGz7 11
        have hfz7_12 := blk_frozen HGz7 12
        have hfz7_13 := blk_frozen HGz7 13
        have hfz7_14 := blk_frozen HGz7 14
        have hfz7_15 := blk_frozen HGz7 15
        have hfz7_16 := blk_frozen HGz7 16
        clear HGz7 hgz7
        go_enter Try.func27, Try.ntmps27
        go_wp2
        first | go_end0 | ((try simp only [Exit.inBlock, Exit.then]); refine bodyPost_ret (results_none rfl _ _ _) rfl ?_)
        exact ⟨by first | rfl | (simp [errW_none, errW_some] <;> rfl) | (simp [*, errW_none, errW_some] <;> rfl), by repeat (first | (with_reducible first | exact HI0.out | apply IsS23.alloc | apply IsS23.drewN | apply IsS23.drew | apply IsS23.set_0 | apply IsS23.set_1 | apply IsS23.set_2 | apply IsS23.set_3 | apply IsS23.set_4 | apply IsS23.set_5 | apply IsS23.set_6 | apply IsS23.set_7 | apply IsS23.set_8 | apply IsS23.set_9 | apply IsS23.set_10 | apply IsS23.set_11 | apply IsS23.set_12 | apply IsS23.set_13 | apply IsS23.set_14 | apply IsS23.set_15 | apply IsS23.set_16) | exact HI0.out), by repeat (first | (with_reducible first | exact HB.out | apply below_alloc | apply pw_below_drewN | apply below_drew1 | refine below_set ?_ (IsS23.ge HI0.out)) | exact HB.out), by repeat (first | (with_reducible first | exact HK.out | apply KeepBut.set_ | apply keep_drewN | apply keep_drew | apply keep_alloc) | exact HK.out)⟩
      · rw [if_neg c6] at H
        have c6b0 : (s0_7 == 3) = false := beq_eq_false_iff_ne.mpr c6
        have c6b1 : (s0_7 != 3) = true := bne_iff_ne.mpr c6
        simp only [Option.some.injEq, Prod.mk.injEq] at H
        obtain ⟨rfl, rfl, rfl, rfl, rfl, rfl, rfl, rfl, rfl, rfl, rfl, rfl, rfl, rfl, rfl, rfl, rfl⟩ := H
        obtain ⟨HGz8, hgz8⟩ := HI0.out
        have hcz8_0 := cellS23_0 HGz8
        have hcz8_1 := cellS23_1 HGz8
        have hcz8_2 := cellS23_2 HGz8
        have hcz8_3 := cellS23_3 HGz8
        have hcz8_4 := cellS23_4 HGz8
        have hcz8_5 := cellS23_5 HGz8
        have hcz8_6 := cellS23_6 HGz8
        have hcz8_7 := cellS23_7 HGz8
        have hcz8_8 := cellS23_8 HGz8
        have hcz8_9 := cellS23_9 HGz8
        have hcz8_10 := cellS23_10 HGz8
        have hcz8_11 := cellS23_11 HGz8
        have hcz8_12 := cellS23_12 HGz8
        have hcz8_13 := cellS23_13 HGz8
        have hcz8_14 := cellS23_14 HGz8
        have hcz8_15 := cellS23_15 HGz8
        have hcz8_16 := cellS23_16 HGz8
        have hfz8_0 := blk_frozen HGz8 0
        have hfz8_1 := blk_frozen HGz8 1
        have hfz8_2 := blk_frozen HGz8 2
        have hfz8_3 := blk_frozen HGz8 3
        have hfz8_4 := blk_frozen HGz8 4
        have hfz8_5 := blk_frozen HGz8 5
        have hfz8_6 := blk_frozen HGz8 6
        have hfz8_7 := blk_frozen HGz8 7
        have hfz8_8 := blk_frozen HGz8 8
        have hfz8_9 := blk_frozen HGz8 9
        have hfz8_10 := blk_frozen HGz8 10
        have hfz8_11 := blk_frozen HGz8 11
        have hfz8_12 := blk_frozen HGz8 12
        have hfz8_13 := blk_frozen HGz8 13
        have hfz8_14 := blk_frozen HGz8 14
        have hfz8_15 := blk_frozen HGz8 15
        have hfz8_16 := blk_frozen HGz8 16
        clear HGz8 hgz8
        go_enter Try.func27, Try.ntmps27
        go_wp2
        first | go_end0 | ((try simp only [Exit.inBlock, Exit.then]); refine bodyPost_ret (results_none rfl _ _ _) rfl ?_)
        exact ⟨by first | rfl | (simp [errW_none, errW_some] <;> rfl) | (simp [*, errW_none, errW_some] <;> rfl), by repeat (first | (with_reducible first | exact HI0.out | apply IsS23.alloc | apply IsS23.drewN | apply IsS23.drew | apply IsS23.set_0 | apply IsS23.set_1 | apply IsS23.set_2 | apply IsS23.set_3 | apply IsS23.set_4 | apply IsS23.set_5 | apply IsS23.set_6 | apply IsS23.set_7 | apply IsS23.set_8 | apply IsS23.set_9 | apply IsS23.set_10 | apply IsS23.set_11 | apply IsS23.set_12 | apply IsS23.set_13 | apply IsS23.set_14 | apply IsS23.set_15 | apply IsS23.set_16) | exact HI0.out), by repeat (first | (with_reducible first | exact HB.out | apply below_alloc | apply pw_below_drewN | apply below_drew1 | refine below_set ?_ (IsS23.ge HI0.out)) | exact HB.out), by repeat (first | (with_reducible first | exact HK.out | apply KeepBut.set_ | apply keep_drewN | apply keep_drew | apply keep_alloc) | exact HK.out)⟩
    · rw [if_neg c5] at H
      have c5b0 : (a1 == 3) = false := beq_eq_false_iff_ne.mpr c5
      have c5b1 : (a1 != 3) = true := bne_iff_ne.mpr c5
      by_cases c9 : a1 = 5
      · rw [if_pos c9] at H
        have c9b0 : (a1 == 5) = true := beq_iff_eq.mpr c9
        have c9b1 : (a1 != 5) = false := bne_eq_false_iff_eq.mpr c9
        clear c9
        simp only [Option.some.injEq, Prod.mk.injEq] at H
        obtain ⟨rfl, rfl, rfl, rfl, rfl, rfl, rfl, rfl, rfl, rfl, rfl, rfl, rfl, rfl, rfl, rfl, rfl⟩ := H
        obtain ⟨HGz10, hgz10⟩ := HI0.out
        have hcz10_0 := cellS23_0 HGz10
        have hcz10_1 := cellS23_1 HGz10
        have hcz10_2 := cellS23_2 HGz10
        have hcz10_3 := cellS23_3 HGz10
        have hcz10_4 := cellS23_4 HGz10
        have hcz10_5 := cellS23_5 HGz10
        have hcz10_6 := cellS23_6 HGz10
        have hcz10_7 := cellS23_7 HGz10
        have hcz10_8 := cellS23_8 HGz10
        have hcz10_9 := cellS23_9 HGz10
        have hcz10_10 := cellS23_10 HGz10
        have hcz10_11 := cellS23_11 HGz10
        have hcz10_12 := cellS23_12 HGz10
        have hcz10_13 := cellS23_13 HGz10
        have hcz10_14 := cellS23_14 HGz10
        have hcz10_15 := cellS23_15 HGz10
        have hcz10_16 := cellS23_16 HGz10
        have hfz10_0 := blk_frozen HGz10 0
        have hfz10_1 := blk_frozen HGz10 1
        have hfz10_2 := blk_frozen HGz10 2
        have hfz10_3 := blk_frozen HGz10 3
        have hfz10_4 := blk_frozen HGz10 4
        have hfz10_5 := blk_frozen HGz10 5
        have hfz10_6 := blk_frozen HGz10 6
        have hfz10_7 := blk_frozen HGz10 7
        have hfz10_8 := blk_frozen HGz10 8
        have hfz10_9 := blk_frozen HGz10 9
        have hfz10_10 := blk_frozen HGz10 10
        have hfz10_11 := blk_frozen HGz10 11
        have hfz10_12 := blk_frozen HGz10 12
        have hfz10_13 := blk_frozen HGz10 13
        have hfz10_14 := blk_frozen HGz10 14
        have hfz10_15 := blk_frozen HGz10 15
        have hfz10_16 := blk_frozen HGz10 16
        clear HGz10 hgz10
        go_enter Try.func27, Try.ntmps27
        go_wp2
        first | go_end0 | ((try simp only [Exit.inBlock, Exit.then]); refine bodyPost_ret (results_none rfl _ _ _) rfl ?_)
        exact ⟨by first | rfl | (simp [errW_none, errW_some] <;> rfl) | (simp [*, errW_none, errW_some] <;> rfl), by repeat (first | (with_reducible first | exact HI0.out | apply IsS23.alloc | apply IsS23.drewN | apply IsS23.drew | apply IsS23.set_0 | apply IsS23.set_1 | apply IsS23.set_2 | apply IsS23.set_3 | apply IsS23.set_4 | apply IsS23.set_5 | apply IsS23.set_6 | apply IsS23.set_7 | apply IsS23.set_8 | apply IsS23.set_9 | apply IsS23.set_10 | apply IsS23.set_11 | apply IsS23.set_12 | apply IsS23.set_13 | apply IsS23.set_14 | apply IsS23.set_15 | apply IsS23.set_16) | exact HI0.out), by repeat (first | (with_reducible first | exact HB.out | apply below_alloc | apply pw_below_drewN | apply below_drew1 | refine below_set ?_ (IsS23.ge HI0.out)) | exact HB.out), by repeat (first | (with_reducible first | exact HK.out | apply KeepBut.set_ | apply keep_drewN | apply keep_drew | apply keep_alloc) | exact HK.out)⟩
      · rw [if_neg c9] at H
        have c9b0 : (a1 == 5) = false := beq_eq_false_iff_ne.mpr c9
        have c9b1 : (a1 != 5) = true := bne_iff_ne.mpr c9
        simp only [Option.some.injEq, Prod.mk.injEq] at H
        obtain ⟨rfl, rfl, rfl, rfl, rfl, rfl, rfl, rfl, rfl, rfl, rfl, rfl, rfl, rfl, rfl, rfl, rfl⟩ := H
        go_enter Try.func27, Try.ntmps27
        go_wp2
        first | go_end0 | ((try simp only [Exit.inBlock, Exit.then]); refine bodyPost_ret (results_none rfl _ _ _) rfl ?_)
        exact ⟨by first | rfl | (simp [errW_none, errW_some] <;> rfl) | (simp [*, errW_none, errW_some] <;> rfl), by repeat (first | (with_reducible first | exact HI0.out | apply IsS23.alloc | apply IsS23.drewN | apply IsS23.drew | apply IsS23.set_0 | apply IsS23.set_1 | apply IsS23.set_2 | apply IsS23.set_3 | apply IsS23.set_4 | apply IsS23.set_5 | apply IsS23.set_6 | apply IsS23.set_7 | apply IsS23.set_8 | apply IsS23.set_9 | apply IsS23.set_10 | apply IsS23.set_11 | apply IsS23.set_12 | apply IsS23.set_13 | apply IsS23.set_14 | apply IsS23.set_15 | apply IsS23.set_16) | exact HI0.out), by repeat (first | (with_reducible first | exact HB.out | apply below_alloc | apply pw_below_drewN | apply below_drew1 | refine below_set ?_ (IsS23.ge HI0.out)) | exact HB.out), by repeat (first | (with_reducible first | exact HK.out | apply KeepBut.set_ | apply keep_drewN | apply keep_drew | apply keep_alloc) | exact HK.out)⟩

end Go.Proofs.Ytfobedaepflidaa.F

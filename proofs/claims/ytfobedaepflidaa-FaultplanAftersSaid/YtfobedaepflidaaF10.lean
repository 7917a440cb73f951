-- Written by a program of this session (own_print.py) that runs the kit's printer. Lean checks it.
import Derived.Test.YtfobedaepflidaaF0
namespace Go.Proofs.Ytfobedaepflidaa.F
open Go.RowKit Go.Proofs.YtfobedaepflidaaW.PrintWords Go.Proofs.YtfobedaepflidaaW.PrintLast Go.Proofs.YtfobedaepflidaaW.PrintMore
attribute [local go_sem] max2_int min2_int max_two min_two max_three min_three max_four min_four   -- for this text's walks alone
set_option linter.unusedVariables false
set_option linter.unusedSimpArgs false

attribute [local go_sem ↓ high] ld23a sv23a
attribute [local go_sem high] ld23 sv23
/-- A state of type 23 at block g of W; what its slices lead to came in by w0. -/
def IsS23 (w0 W : World) (g : Nat) (f0 : Bool) (f1 : Bool) (f2 : Int) (f3 : Bool) (f4 : Bool) (f5 : Bool) (f6 : Bool) (f7 : Int) (f8 : Bool) (f9 : Bool) (f10 : Bool) (f11 : Bool) (f12 : Bool) (f13 : Bool) (f14 : Bool) (f15 : Bool) (f16 : Int) : Prop := W.heap[g]? = some (.cells #[.bool f0, .bool f1, .int .i64 f2, .bool f3, .bool f4, .bool f5, .bool f6, .int .i64 f7, .bool f8, .bool f9, .bool f10, .bool f11, .bool f12, .bool f13, .bool f14, .bool f15, .int .i64 f16] 23 (0, 0)) ∧ w0.heap.size ≤ g
theorem IsS23.grown {w0 W : World} {g : Nat} {f0 : Bool} {f1 : Bool} {f2 : Int} {f3 : Bool} {f4 : Bool} {f5 : Bool} {f6 : Bool} {f7 : Int} {f8 : Bool} {f9 : Bool} {f10 : Bool} {f11 : Bool} {f12 : Bool} {f13 : Bool} {f14 : Bool} {f15 : Bool} {f16 : Int} {W1 : World} {row : Option Nat} (h : IsS23 w0 W g f0 f1 f2 f3 f4 f5 f6 f7 f8 f9 f10 f11 f12 f13 f14 f15 f16) (hw : W.grownBy W1 row) (hne : some g ≠ row) : IsS23 w0 W1 g f0 f1 f2 f3 f4 f5 f6 f7 f8 f9 f10 f11 f12 f13 f14 f15 f16 := by
  obtain ⟨hb, hg⟩ := h
  exact ⟨blk_grown hb hw hne, hg⟩
theorem IsS23.own_neN {w0 W : World} {g : Nat} {f0 : Bool} {f1 : Bool} {f2 : Int} {f3 : Bool} {f4 : Bool} {f5 : Bool} {f6 : Bool} {f7 : Int} {f8 : Bool} {f9 : Bool} {f10 : Bool} {f11 : Bool} {f12 : Bool} {f13 : Bool} {f14 : Bool} {f15 : Bool} {f16 : Int} {α : Type} {d : Kd α} {e : Nat} {base : Nat} {ok : Nat → Prop} {v : Value} {xs : List α} (h : IsS23 w0 W g f0 f1 f2 f3 f4 f5 f6 f7 f8 f9 f10 f11 f12 f13 f14 f15 f16) (ho : Kd.N d e W base ok v xs) (ht : e ≠ 23) : some g ≠ v.ownBlock := by
  obtain ⟨hb, hg⟩ := h
  exact Kd.N_ne ho hb ht
theorem IsS23.fresh {w0 W : World} {g : Nat} {f0 : Bool} {f1 : Bool} {f2 : Int} {f3 : Bool} {f4 : Bool} {f5 : Bool} {f6 : Bool} {f7 : Int} {f8 : Bool} {f9 : Bool} {f10 : Bool} {f11 : Bool} {f12 : Bool} {f13 : Bool} {f14 : Bool} {f15 : Bool} {f16 : Int} (h : IsS23 w0 W g f0 f1 f2 f3 f4 f5 f6 f7 f8 f9 f10 f11 f12 f13 f14 f15 f16) : ∀ k, W.heap.size ≤ k → k ≠ g := by
  obtain ⟨hb, hg⟩ := h
  exact Kd.freshB hb
theorem IsS23.kept {w0 W : World} {g : Nat} {f0 : Bool} {f1 : Bool} {f2 : Int} {f3 : Bool} {f4 : Bool} {f5 : Bool} {f6 : Bool} {f7 : Int} {f8 : Bool} {f9 : Bool} {f10 : Bool} {f11 : Bool} {f12 : Bool} {f13 : Bool} {f14 : Bool} {f15 : Bool} {f16 : Int} {W1 : World} {S : Nat → Prop} (h : IsS23 w0 W g f0 f1 f2 f3 f4 f5 f6 f7 f8 f9 f10 f11 f12 f13 f14 f15 f16) (hk : Kept W W1 S) (hne : ¬ S g) : IsS23 w0 W1 g f0 f1 f2 f3 f4 f5 f6 f7 f8 f9 f10 f11 f12 f13 f14 f15 f16 := by
  obtain ⟨hb, hg⟩ := h
  exact ⟨blk_kept hb hk hne, hg⟩
theorem IsS23.below {w0 W : World} {g : Nat} {f0 : Bool} {f1 : Bool} {f2 : Int} {f3 : Bool} {f4 : Bool} {f5 : Bool} {f6 : Bool} {f7 : Int} {f8 : Bool} {f9 : Bool} {f10 : Bool} {f11 : Bool} {f12 : Bool} {f13 : Bool} {f14 : Bool} {f15 : Bool} {f16 : Int} {W1 : World} (h : IsS23 w0 W g f0 f1 f2 f3 f4 f5 f6 f7 f8 f9 f10 f11 f12 f13 f14 f15 f16) (hw : Below W.heap.size W W1) : IsS23 w0 W1 g f0 f1 f2 f3 f4 f5 f6 f7 f8 f9 f10 f11 f12 f13 f14 f15 f16 := h.grown (grown_of_below hw none) (by simp)
theorem IsS23.alloc {w0 W : World} {g : Nat} {f0 : Bool} {f1 : Bool} {f2 : Int} {f3 : Bool} {f4 : Bool} {f5 : Bool} {f6 : Bool} {f7 : Int} {f8 : Bool} {f9 : Bool} {f10 : Bool} {f11 : Bool} {f12 : Bool} {f13 : Bool} {f14 : Bool} {f15 : Bool} {f16 : Int} (h : IsS23 w0 W g f0 f1 f2 f3 f4 f5 f6 f7 f8 f9 f10 f11 f12 f13 f14 f15 f16) (o : Obj) : IsS23 w0 (W.alloc o) g f0 f1 f2 f3 f4 f5 f6 f7 f8 f9 f10 f11 f12 f13 f14 f15 f16 := h.below (below_alloc (Below.refl _ _) o)
theorem IsS23.drewN {w0 W : World} {g : Nat} {f0 : Bool} {f1 : Bool} {f2 : Int} {f3 : Bool} {f4 : Bool} {f5 : Bool} {f6 : Bool} {f7 : Int} {f8 : Bool} {f9 : Bool} {f10 : Bool} {f11 : Bool} {f12 : Bool} {f13 : Bool} {f14 : Bool} {f15 : Bool} {f16 : Int} (h : IsS23 w0 W g f0 f1 f2 f3 f4 f5 f6 f7 f8 f9 f10 f11 f12 f13 f14 f15 f16) (m : Nat) : IsS23 w0 (W.drewN m) g f0 f1 f2 f3 f4 f5 f6 f7 f8 f9 f10 f11 f12 f13 f14 f15 f16 := h
theorem IsS23.drew {w0 W : World} {g : Nat} {f0 : Bool} {f1 : Bool} {f2 : Int} {f3 : Bool} {f4 : Bool} {f5 : Bool} {f6 : Bool} {f7 : Int} {f8 : Bool} {f9 : Bool} {f10 : Bool} {f11 : Bool} {f12 : Bool} {f13 : Bool} {f14 : Bool} {f15 : Bool} {f16 : Int} (h : IsS23 w0 W g f0 f1 f2 f3 f4 f5 f6 f7 f8 f9 f10 f11 f12 f13 f14 f15 f16) : IsS23 w0 W.drew g f0 f1 f2 f3 f4 f5 f6 f7 f8 f9 f10 f11 f12 f13 f14 f15 f16 := h
theorem IsS23.at_ {w0 W : World} {g : Nat} {f0 : Bool} {f1 : Bool} {f2 : Int} {f3 : Bool} {f4 : Bool} {f5 : Bool} {f6 : Bool} {f7 : Int} {f8 : Bool} {f9 : Bool} {f10 : Bool} {f11 : Bool} {f12 : Bool} {f13 : Bool} {f14 : Bool} {f15 : Bool} {f16 : Int} {w' : World} {m : Nat} (hq : W.drewN m = w') (h : IsS23 w0 W g f0 f1 f2 f3 f4 f5 f6 f7 f8 f9 f10 f11 f12 f13 f14 f15 f16) : IsS23 w0 w' g f0 f1 f2 f3 f4 f5 f6 f7 f8 f9 f10 f11 f12 f13 f14 f15 f16 := by subst hq; exact IsS23.drewN h m
theorem IsS23.apart {w0 W : World} {g : Nat} {f0 : Bool} {f1 : Bool} {f2 : Int} {f3 : Bool} {f4 : Bool} {f5 : Bool} {f6 : Bool} {f7 : Int} {f8 : Bool} {f9 : Bool} {f10 : Bool} {f11 : Bool} {f12 : Bool} {f13 : Bool} {f14 : Bool} {f15 : Bool} {f16 : Int} {α : Type} {d : Kd α} {e : Nat} {base : Nat} {ok : Nat → Prop} {v : Value} {xs : List α} (h : IsS23 w0 W g f0 f1 f2 f3 f4 f5 f6 f7 f8 f9 f10 f11 f12 f13 f14 f15 f16) (ho : d.R e W base ok v xs) (ht : ∀ q, q ∈ e :: d.E → q ≠ 23) : d.R e W base (fun k => ok k ∧ k ≠ g) v xs := by
  obtain ⟨hb, hg⟩ := h
  exact Kd.R_types ho hb ht
theorem IsS23.own_ne {w0 W : World} {g : Nat} {f0 : Bool} {f1 : Bool} {f2 : Int} {f3 : Bool} {f4 : Bool} {f5 : Bool} {f6 : Bool} {f7 : Int} {f8 : Bool} {f9 : Bool} {f10 : Bool} {f11 : Bool} {f12 : Bool} {f13 : Bool} {f14 : Bool} {f15 : Bool} {f16 : Int} {α : Type} {d : Kd α} {e : Nat} {base : Nat} {ok : Nat → Prop} {v : Value} {xs : List α} (h : IsS23 w0 W g f0 f1 f2 f3 f4 f5 f6 f7 f8 f9 f10 f11 f12 f13 f14 f15 f16) (ho : d.R e W base ok v xs) (ht : e ≠ 23) : some g ≠ v.ownBlock := by
  obtain ⟨hb, hg⟩ := h
  exact Kd.R_ne ho hb ht
theorem IsS23.apartQ {w0 W : World} {g : Nat} {f0 : Bool} {f1 : Bool} {f2 : Int} {f3 : Bool} {f4 : Bool} {f5 : Bool} {f6 : Bool} {f7 : Int} {f8 : Bool} {f9 : Bool} {f10 : Bool} {f11 : Bool} {f12 : Bool} {f13 : Bool} {f14 : Bool} {f15 : Bool} {f16 : Int} {α : Type} {d : Kd α} {e : Nat} {base : Nat} {ok : Nat → Prop} {v : Value} {xs : List α} (h : IsS23 w0 W g f0 f1 f2 f3 f4 f5 f6 f7 f8 f9 f10 f11 f12 f13 f14 f15 f16) (ho : d.Q e W base ok v xs) (ht : ∀ q, q ∈ e :: d.E → q ≠ 23) : d.Q e W base (fun k => ok k ∧ k ≠ g) v xs := by
  obtain ⟨hb, hg⟩ := h
  exact Kd.Q_types ho hb ht
theorem IsS23.own_neQ {w0 W : World} {g : Nat} {f0 : Bool} {f1 : Bool} {f2 : Int} {f3 : Bool} {f4 : Bool} {f5 : Bool} {f6 : Bool} {f7 : Int} {f8 : Bool} {f9 : Bool} {f10 : Bool} {f11 : Bool} {f12 : Bool} {f13 : Bool} {f14 : Bool} {f15 : Bool} {f16 : Int} {α : Type} {d : Kd α} {e : Nat} {base : Nat} {ok : Nat → Prop} {v : Value} {xs : List α} (h : IsS23 w0 W g f0 f1 f2 f3 f4 f5 f6 f7 f8 f9 f10 f11 f12 f13 f14 f15 f16) (ho : d.Q e W base ok v xs) (ht : e ≠ 23) : some g ≠ v.ownBlock := by
  obtain ⟨hb, hg⟩ := h
  exact Kd.Q_ne ho hb ht
theorem IsS23.apartS {w0 W : World} {g : Nat} {f0 : Bool} {f1 : Bool} {f2 : Int} {f3 : Bool} {f4 : Bool} {f5 : Bool} {f6 : Bool} {f7 : Int} {f8 : Bool} {f9 : Bool} {f10 : Bool} {f11 : Bool} {f12 : Bool} {f13 : Bool} {f14 : Bool} {f15 : Bool} {f16 : Int} {α : Type} {d : Kd α} {e : Nat} {base : Nat} {ok : Nat → Prop} {v : Value} {xs : List α} (h : IsS23 w0 W g f0 f1 f2 f3 f4 f5 f6 f7 f8 f9 f10 f11 f12 f13 f14 f15 f16) (ho : d.S e W base ok v xs) (ht : ∀ q, q ∈ e :: d.E → q ≠ 23) : d.S e W base (fun k => ok k ∧ k ≠ g) v xs := by
  obtain ⟨hb, hg⟩ := h
  exact Kd.S_types ho hb ht
theorem IsS23.own_neS {w0 W : World} {g : Nat} {f0 : Bool} {f1 : Bool} {f2 : Int} {f3 : Bool} {f4 : Bool} {f5 : Bool} {f6 : Bool} {f7 : Int} {f8 : Bool} {f9 : Bool} {f10 : Bool} {f11 : Bool} {f12 : Bool} {f13 : Bool} {f14 : Bool} {f15 : Bool} {f16 : Int} {α : Type} {d : Kd α} {e : Nat} {base : Nat} {ok : Nat → Prop} {v : Value} {xs : List α} (h : IsS23 w0 W g f0 f1 f2 f3 f4 f5 f6 f7 f8 f9 f10 f11 f12 f13 f14 f15 f16) (ho : d.S e W base ok v xs) (ht : e ≠ 23) : some g ≠ v.ownBlock := by
  obtain ⟨hb, hg⟩ := h
  exact Kd.S_ne ho hb ht
theorem IsS23.lt {w0 W : World} {g : Nat} {f0 : Bool} {f1 : Bool} {f2 : Int} {f3 : Bool} {f4 : Bool} {f5 : Bool} {f6 : Bool} {f7 : Int} {f8 : Bool} {f9 : Bool} {f10 : Bool} {f11 : Bool} {f12 : Bool} {f13 : Bool} {f14 : Bool} {f15 : Bool} {f16 : Int} (h : IsS23 w0 W g f0 f1 f2 f3 f4 f5 f6 f7 f8 f9 f10 f11 f12 f13 f14 f15 f16) : g < W.heap.size := by
  obtain ⟨hb, hg⟩ := h
  exact blk_lt hb
theorem IsS23.ge {w0 W : World} {g : Nat} {f0 : Bool} {f1 : Bool} {f2 : Int} {f3 : Bool} {f4 : Bool} {f5 : Bool} {f6 : Bool} {f7 : Int} {f8 : Bool} {f9 : Bool} {f10 : Bool} {f11 : Bool} {f12 : Bool} {f13 : Bool} {f14 : Bool} {f15 : Bool} {f16 : Int} (h : IsS23 w0 W g f0 f1 f2 f3 f4 f5 f6 f7 f8 f9 f10 f11 f12 f13 f14 f15 f16) : w0.heap.size ≤ g := by
  obtain ⟨hb, hg⟩ := h
  exact hg
theorem IsS23.ne_blk {w0 W : World} {g : Nat} {f0 : Bool} {f1 : Bool} {f2 : Int} {f3 : Bool} {f4 : Bool} {f5 : Bool} {f6 : Bool} {f7 : Int} {f8 : Bool} {f9 : Bool} {f10 : Bool} {f11 : Bool} {f12 : Bool} {f13 : Bool} {f14 : Bool} {f15 : Bool} {f16 : Int} {a : Nat} {cs : Array Value} {t : TypeId} {fr : Nat × Nat} (h : IsS23 w0 W g f0 f1 f2 f3 f4 f5 f6 f7 f8 f9 f10 f11 f12 f13 f14 f15 f16) (hb2 : W.heap[a]? = some (.cells cs t fr)) (ht : t ≠ 23) : g ≠ a := by
  obtain ⟨hb, hg⟩ := h
  rintro rfl
  rw [hb] at hb2
  injection hb2 with hb2
  injection hb2 with _ ht2
  exact ht ht2.symm
theorem IsS23.far {w0 W : World} {g : Nat} {f0 : Bool} {f1 : Bool} {f2 : Int} {f3 : Bool} {f4 : Bool} {f5 : Bool} {f6 : Bool} {f7 : Int} {f8 : Bool} {f9 : Bool} {f10 : Bool} {f11 : Bool} {f12 : Bool} {f13 : Bool} {f14 : Bool} {f15 : Bool} {f16 : Int} {p : Addr} (h : IsS23 w0 W g f0 f1 f2 f3 f4 f5 f6 f7 f8 f9 f10 f11 f12 f13 f14 f15 f16) (hne : g ≠ p.block) (u : Value) : IsS23 w0 (W.setCell p u) g f0 f1 f2 f3 f4 f5 f6 f7 f8 f9 f10 f11 f12 f13 f14 f15 f16 := by
  obtain ⟨hb, hg⟩ := h
  exact ⟨blk_far hb hne u, hg⟩
theorem cellS23_0 {W : World} {g : Nat} {f0 : Bool} {f1 : Bool} {f2 : Int} {f3 : Bool} {f4 : Bool} {f5 : Bool} {f6 : Bool} {f7 : Int} {f8 : Bool} {f9 : Bool} {f10 : Bool} {f11 : Bool} {f12 : Bool} {f13 : Bool} {f14 : Bool} {f15 : Bool} {f16 : Int} (h : W.heap[g]? = some (.cells #[.bool f0, .bool f1, .int .i64 f2, .bool f3, .bool f4, .bool f5, .bool f6, .int .i64 f7, .bool f8, .bool f9, .bool f10, .bool f11, .bool f12, .bool f13, .bool f14, .bool f15, .int .i64 f16] 23 (0, 0))) : W.cell? ⟨g, 0, none⟩ = some (.bool f0) := (blk_cell h 0).trans rfl
theorem IsS23.set_0 {w0 W : World} {g : Nat} {f0 : Bool} {f1 : Bool} {f2 : Int} {f3 : Bool} {f4 : Bool} {f5 : Bool} {f6 : Bool} {f7 : Int} {f8 : Bool} {f9 : Bool} {f10 : Bool} {f11 : Bool} {f12 : Bool} {f13 : Bool} {f14 : Bool} {f15 : Bool} {f16 : Int} (h : IsS23 w0 W g f0 f1 f2 f3 f4 f5 f6 f7 f8 f9 f10 f11 f12 f13 f14 f15 f16) (x : Bool) : IsS23 w0 (W.setCell ⟨g, 0, none⟩ (.bool x)) g x f1 f2 f3 f4 f5 f6 f7 f8 f9 f10 f11 f12 f13 f14 f15 f16 := by
  obtain ⟨hb, hg⟩ := h
  exact ⟨by simpa using blk_set hb 0 (.bool x), hg⟩
theorem cellS23_1 {W : World} {g : Nat} {f0 : Bool} {f1 : Bool} {f2 : Int} {f3 : Bool} {f4 : Bool} {f5 : Bool} {f6 : Bool} {f7 : Int} {f8 : Bool} {f9 : Bool} {f10 : Bool} {f11 : Bool} {f12 : Bool} {f13 : Bool} {f14 : Bool} {f15 : Bool} {f16 : Int} (h : W.heap[g]? = some (.cells #[.bool f0, .bool f1, .int .i64 f2, .bool f3, .bool f4, .bool f5, .bool f6, .int .i64 f7, .bool f8, .bool f9, .bool f10, .bool f11, .bool f12, .bool f13, .bool f14, .bool f15, .int .i64 f16] 23 (0, 0))) : W.cell? ⟨g, 1, none⟩ = some (.bool f1) := (blk_cell h 1).trans rfl
theorem IsS23.set_1 {w0 W : World} {g : Nat} {f0 : Bool} {f1 : Bool} {f2 : Int} {f3 : Bool} {f4 : Bool} {f5 : Bool} {f6 : Bool} {f7 : Int} {f8 : Bool} {f9 : Bool} {f10 : Bool} {f11 : Bool} {f12 : Bool} {f13 : Bool} {f14 : Bool} {f15 : Bool} {f16 : Int} (h : IsS23 w0 W g f0 f1 f2 f3 f4 f5 f6 f7 f8 f9 f10 f11 f12 f13 f14 f15 f16) (x : Bool) : IsS23 w0 (W.setCell ⟨g, 1, none⟩ (.bool x)) g f0 x f2 f3 f4 f5 f6 f7 f8 f9 f10 f11 f12 f13 f14 f15 f16 := by
  obtain ⟨hb, hg⟩ := h
  exact ⟨by simpa using blk_set hb 1 (.bool x), hg⟩
theorem cellS23_2 {W : World} {g : Nat} {f0 : Bool} {f1 : Bool} {f2 : Int} {f3 : Bool} {f4 : Bool} {f5 : Bool} {f6 : Bool} {f7 : Int} {f8 : Bool} {f9 : Bool} {f10 : Bool} {f11 : Bool} {f12 : Bool} {f13 : Bool} {f14 : Bool} {f15 : Bool} {f16 : Int} (h : W.heap[g]? = some (.cells #[.bool f0, .bool f1, .int .i64 f2, .bool f3, .bool f4, .bool f5, .bool f6, .int .i64 f7, .bool f8, .bool f9, .bool f10, .bool f11, .bool f12, .bool f13, .bool f14, .bool f15, .int .i64 f16] 23 (0, 0))) : W.cell? ⟨g, 2, none⟩ = some (.int .i64 f2) := (blk_cell h 2).trans rfl
theorem IsS23.set_2 {w0 W : World} {g : Nat} {f0 : Bool} {f1 : Bool} {f2 : Int} {f3 : Bool} {f4 : Bool} {f5 : Bool} {f6 : Bool} {f7 : Int} {f8 : Bool} {f9 : Bool} {f10 : Bool} {f11 : Bool} {f12 : Bool} {f13 : Bool} {f14 : Bool} {f15 : Bool} {f16 : Int} (h : IsS23 w0 W g f0 f1 f2 f3 f4 f5 f6 f7 f8 f9 f10 f11 f12 f13 f14 f15 f16) (x : Int) : IsS23 w0 (W.setCell ⟨g, 2, none⟩ (.int .i64 x)) g f0 f1 x f3 f4 f5 f6 f7 f8 f9 f10 f11 f12 f13 f14 f15 f16 := by
  obtain ⟨hb, hg⟩ := h
  exact ⟨by simpa using blk_set hb 2 (.int .i64 x), hg⟩
theorem cellS23_3 {W : World} {g : Nat} {f0 : Bool} {f1 : Bool} {f2 : Int} {f3 : Bool} {f4 : Bool} {f5 : Bool} {f6 : Bool} {f7 : Int} {f8 : Bool} {f9 : Bool} {f10 : Bool} {f11 : Bool} {f12 : Bool} {f13 : Bool} {f14 : Bool} {f15 : Bool} {f16 : Int} (h : W.heap[g]? = some (.cells #[.bool f0, .bool f1, .int .i64 f2, .bool f3, .bool f4, .bool f5, .bool f6, .int .i64 f7, .bool f8, .bool f9, .bool f10, .bool f11, .bool f12, .bool f13, .bool f14, .bool f15, .int .i64 f16] 23 (0, 0))) : W.cell? ⟨g, 3, none⟩ = some (.bool f3) := (blk_cell h 3).trans rfl
theorem IsS23.set_3 {w0 W : World} {g : Nat} {f0 : Bool} {f1 : Bool} {f2 : Int} {f3 : Bool} {f4 : Bool} {f5 : Bool} {f6 : Bool} {f7 : Int} {f8 : Bool} {f9 : Bool} {f10 : Bool} {f11 : Bool} {f12 : Bool} {f13 : Bool} {f14 : Bool} {f15 : Bool} {f16 : Int} (h : IsS23 w0 W g f0 f1 f2 f3 f4 f5 f6 f7 f8 f9 f10 f11 f12 f13 f14 f15 f16) (x : Bool) : IsS23 w0 (W.setCell ⟨g, 3, none⟩ (.bool x)) g f0 f1 f2 x f4 f5 f6 f7 f8 f9 f10 f11 f12 f13 f14 f15 f16 := by
  obtain ⟨hb, hg⟩ := h
  exact ⟨by simpa using blk_set hb 3 (.bool x), hg⟩
theorem cellS23_4 {W : World} {g : Nat} {f0 : Bool} {f1 : Bool} {f2 : Int} {f3 : Bool} {f4 : Bool} {f5 : Bool} {f6 : Bool} {f7 : Int} {f8 : Bool} {f9 : Bool} {f10 : Bool} {f11 : Bool} {f12 : Bool} {f13 : Bool} {f14 : Bool} {f15 : Bool} {f16 : Int} (h : W.heap[g]? = some (.cells #[.bool f0, .bool f1, .int .i64 f2, .bool f3, .bool f4, .bool f5, .bool f6, .int .i64 f7, .bool f8, .bool f9, .bool f10, .bool f11, .bool f12, .bool f13, .bool f14, .bool f15, .int .i64 f16] 23 (0, 0))) : W.cell? ⟨g, 4, none⟩ = some (.bool f4) := (blk_cell h 4).trans rfl
theorem IsS23.set_4 {w0 W : World} {g : Nat} {f0 : Bool} {f1 : Bool} {f2 : Int} {f3 : Bool} {f4 : Bool} {f5 : Bool} {f6 : Bool} {f7 : Int} {f8 : Bool} {f9 : Bool} {f10 : Bool} {f11 : Bool} {f12 : Bool} {f13 : Bool} {f14 : Bool} {f15 : Bool} {f16 : Int} (h : IsS23 w0 W g f0 f1 f2 f3 f4 f5 f6 f7 f8 f9 f10 f11 f12 f13 f14 f15 f16) (x : Bool) : IsS23 w0 (W.setCell ⟨g, 4, none⟩ (.bool x)) g f0 f1 f2 f3 x f5 f6 f7 f8 f9 f10 f11 f12 f13 f14 f15 f16 := by
  obtain ⟨hb, hg⟩ := h
  exact ⟨by simpa using blk_set hb 4 (.bool x), hg⟩
theorem cellS23_5 {W : World} {g : Nat} {f0 : Bool} {f1 : Bool} {f2 : Int} {f3 : Bool} {f4 : Bool} {f5 : Bool} {f6 : Bool} {f7 : Int} {f8 : Bool} {f9 : Bool} {f10 : Bool} {f11 : Bool} {f12 : Bool} {f13 : Bool} {f14 : Bool} {f15 : Bool} {f16 : Int} (h : W.heap[g]? = some (.cells #[.bool f0, .bool f1, .int .i64 f2, .bool f3, .bool f4, .bool f5, .bool f6, .int .i64 f7, .bool f8, .bool f9, .bool f10, .bool f11, .bool f12, .bool f13, .bool f14, .bool f15, .int .i64 f16] 23 (0, 0))) : W.cell? ⟨g, 5, none⟩ = some (.bool f5) := (blk_cell h 5).trans rfl
theorem IsS23.set_5 {w0 W : World} {g : Nat} {f0 : Bool} {f1 : Bool} {f2 : Int} {f3 : Bool} {f4 : Bool} {f5 : Bool} {f6 : Bool} {f7 : Int} {f8 : Bool} {f9 : Bool} {f10 : Bool} {f11 : Bool} {f12 : Bool} {f13 : Bool} {f14 : Bool} {f15 : Bool} {f16 : Int} (h : IsS23 w0 W g f0 f1 f2 f3 f4 f5 f6 f7 f8 f9 f10 f11 f12 f13 f14 f15 f16) (x : Bool) : IsS23 w0 (W.setCell ⟨g, 5, none⟩ (.bool x)) g f0 f1 f2 f3 f4 x f6 f7 f8 f9 f10 f11 f12 f13 f14 f15 f16 := by
  obtain ⟨hb, hg⟩ := h
  exact ⟨by simpa using blk_set hb 5 (.bool x), hg⟩
theorem cellS23_6 {W : World} {g : Nat} {f0 : Bool} {f1 : Bool} {f2 : Int} {f3 : Bool} {f4 : Bool} {f5 : Bool} {f6 : Bool} {f7 : Int} {f8 : Bool} {f9 : Bool} {f10 : Bool} {f11 : Bool} {f12 : Bool} {f13 : Bool} {f14 : Bool} {f15 : Bool} {f16 : Int} (h : W.heap[g]? = some (.cells #[.bool f0, .bool f1, .int .i64 f2, .bool f3, .bool f4, .bool f5, .bool f6, .int .i64 f7, .bool f8, .bool f9, .bool f10, .bool f11, .bool f12, .bool f13, .bool f14, .bool f15, .int .i64 f16] 23 (0, 0))) : W.cell? ⟨g, 6, none⟩ = some (.bool f6) := (blk_cell h 6).trans rfl
theorem IsS23.set_6 {w0 W : World} {g : Nat} {f0 : Bool} {f1 : Bool} {f2 : Int} {f3 : Bool} {f4 : Bool} {f5 : Bool} {f6 : Bool} {f7 : Int} {f8 : Bool} {f9 : Bool} {f10 : Bool} {f11 : Bool} {f12 : Bool} {f13 : Bool} {f14 : Bool} {f15 : Bool} {f16 : Int} (h : IsS23 w0 W g f0 f1 f2 f3 f4 f5 f6 f7 f8 f9 f10 f11 f12 f13 f14 f15 f16) (x : Bool) : IsS23 w0 (W.setCell ⟨g, 6, none⟩ (.bool x)) g f0 f1 f2 f3 f4 f5 x f7 f8 f9 f10 f11 f12 f13 f14 f15 f16 := by
  obtain ⟨hb, hg⟩ := h
  exact ⟨by simpa using blk_set hb 6 (.bool x), hg⟩
theorem cellS23_7 {W : World} {g : Nat} {f0 : Bool} {f1 : Bool} {f2 : Int} {f3 : Bool} {f4 : Bool} {f5 : Bool} {f6 : Bool} {f7 : Int} {f8 : Bool} {f9 : Bool} {f10 : Bool} {f11 : Bool} {f12 : Bool} {f13 : Bool} {f14 : Bool} {f15 : Bool} {f16 : Int} (h : W.heap[g]? = some (.cells #[.bool f0, .bool f1, .int .i64 f2, .bool f3, .bool f4, .bool f5, .bool f6, .int .i64 f7, .bool f8, .bool f9, .bool f10, .bool f11, .bool f12, .bool f13, .bool f14, .bool f15, .int .i64 f16] 23 (0, 0))) : W.cell? ⟨g, 7, none⟩ = some (.int .i64 f7) := (blk_cell h 7).trans rfl
theorem IsS23.set_7 {w0 W : World} {g : Nat} {f0 : Bool} {f1 : Bool} {f2 : Int} {f3 : Bool} {f4 : Bool} {f5 : Bool} {f6 : Bool} {f7 : Int} {f8 : Bool} {f9 : Bool} {f10 : Bool} {f11 : Bool} {f12 : Bool} {f13 : Bool} {f14 : Bool} {f15 : Bool} {f16 : Int} (h : IsS23 w0 W g f0 f1 f2 f3 f4 f5 f6 f7 f8 f9 f10 f11 f12 f13 f14 f15 f16) (x : Int) : IsS23 w0 (W.setCell ⟨g, 7, none⟩ (.int .i64 x)) g f0 f1 f2 f3 f4 f5 f6 x f8 f9 f10 f11 f12 f13 f14 f15 f16 := by
  obtain ⟨hb, hg⟩ := h
  exact ⟨by simpa using blk_set hb 7 (.int .i64 x), hg⟩
theorem cellS23_8 {W : World} {g : Nat} {f0 : Bool} {f1 : Bool} {f2 : Int} {f3 : Bool} {f4 : Bool} {f5 : Bool} {f6 : Bool} {f7 : Int} {f8 : Bool} {f9 : Bool} {f10 : Bool} {f11 : Bool} {f12 : Bool} {f13 : Bool} {f14 : Bool} {f15 : Bool} {f16 : Int} (h : W.heap[g]? = some (.cells #[.bool f0, .bool f1, .int .i64 f2, .bool f3, .bool f4, .bool f5, .bool f6, .int .i64 f7, .bool f8, .bool f9, .bool f10, .bool f11, .bool f12, .bool f13, .bool f14, .bool f15, .int .i64 f16] 23 (0, 0))) : W.cell? ⟨g, 8, none⟩ = some (.bool f8) := (blk_cell h 8).trans rfl
theorem IsS23.set_8 {w0 W : World} {g : Nat} {f0 : Bool} {f1 : Bool} {f2 : Int} {f3 : Bool} {f4 : Bool} {f5 : Bool} {f6 : Bool} {f7 : Int} {f8 : Bool} {f9 : Bool} {f10 : Bool} {f11 : Bool} {f12 : Bool} {f13 : Bool} {f14 : Bool} {f15 : Bool} {f16 : Int} (h : IsS23 w0 W g f0 f1 f2 f3 f4 f5 f6 f7 f8 f9 f10 f11 f12 f13 f14 f15 f16) (x : Bool) : IsS23 w0 (W.setCell ⟨g, 8, none⟩ (.bool x)) g f0 f1 f2 f3 f4 f5 f6 f7 x f9 f10 f11 f12 f13 f14 f15 f16 := by
  obtain ⟨hb, hg⟩ := h
  exact ⟨by simpa using blk_set hb 8 (.bool x), hg⟩
theorem cellS23_9 {W : World} {g : Nat} {f0 : Bool} {f1 : Bool} {f2 : Int} {f3 : Bool} {f4 : Bool} {f5 : Bool} {f6 : Bool} {f7 : Int} {f8 : Bool} {f9 : Bool} {f10 : Bool} {f11 : Bool} {f12 : Bool} {f13 : Bool} {f14 : Bool} {f15 : Bool} {f16 : Int} (h : W.heap[g]? = some (.cells #[.bool f0, .bool f1, .int .i64 f2, .bool f3, .bool f4, .bool f5, .bool f6, .int .i64 f7, .bool f8, .bool f9, .bool f10, .bool f11, .bool f12, .bool f13, .bool f14, .bool f15, .int .i64 f16] 23 (0, 0))) : W.cell? ⟨g, 9, none⟩ = some (.bool f9) := (blk_cell h 9).trans rfl
theorem IsS23.set_9 {w0 W : World} {g : Nat} {f0 : Bool} {f1 : Bool} {f2 : Int} {f3 : Bool} {f4 : Bool} {f5 : Bool} {f6 : Bool} {f7 : Int} {f8 : Bool} {f9 : Bool} {f10 : Bool} {f11 : Bool} {f12 : Bool} {f13 : Bool} {f14 : Bool} {f15 : Bool} {f16 : Int} (h : IsS23 w0 W g f0 f1 f2 f3 f4 f5 f6 f7 f8 f9 f10 f11 f12 f13 f14 f15 f16) (x : Bool) : IsS23 w0 (W.setCell ⟨g, 9, none⟩ (.bool x)) g f0 f1 f2 f3 f4 f5 f6 f7 f8 x f10 f11 f12 f13 f14 f15 f16 := by
  obtain ⟨hb, hg⟩ := h
  exact ⟨by simpa using blk_set hb 9 (.bool x), hg⟩
theorem cellS23_10 {W : World} {g : Nat} {f0 : Bool} {f1 : Bool} {f2 : Int} {f3 : Bool} {f4 : Bool} {f5 : Bool} {f6 : Bool} {f7 : Int} {f8 : Bool} {f9 : Bool} {f10 : Bool} {f11 : Bool} {f12 : Bool} {f13 : Bool} {f14 : Bool} {f15 : Bool} {f16 : Int} (h : W.heap[g]? = some (.cells #[.bool f0, .bool f1, .int .i64 f2, .bool f3, .bool f4, .bool f5, .bool f6, .int .i64 f7, .bool f8, .bool f9, .bool f10, .bool f11, .bool f12, .bool f13, .bool f14, .bool f15, .int .i64 f16] 23 (0, 0))) : W.cell? ⟨g, 10, none⟩ = some (.bool f10) := (blk_cell h 10).trans rfl
theorem IsS23.set_10 {w0 W : World} {g : Nat} {f0 : Bool} {f1 : Bool} {f2 : Int} {f3 : Bool} {f4 : Bool} {f5 : Bool} {f6 : Bool} {f7 : Int} {f8 : Bool} {f9 : Bool} {f10 : Bool} {f11 : Bool} {f12 : Bool} {f13 : Bool} {f14 : Bool} {f15 : Bool} {f16 : Int} (h : IsS23 w0 W g f0 f1 f2 f3 f4 f5 f6 f7 f8 f9 f10 f11 f12 f13 f14 f15 f16) (x : Bool) : IsS23 w0 (W.setCell ⟨g, 10, none⟩ (.bool x)) g f0 f1 f2 f3 f4 f5 f6 f7 f8 f9 x f11 f12 f13 f14 f15 f16 := by
  obtain ⟨hb, hg⟩ := h
  exact ⟨by simpa using blk_set hb 10 (.bool x), hg⟩
theorem cellS23_11 {W : World} {g : Nat} {f0 : Bool} {f1 : Bool} {f2 : Int} {f3 : Bool} {f4 : Bool} {f5 : Bool} {f6 : Bool} {f7 : Int} {f8 : Bool} {f9 : Bool} {f10 : Bool} {f11 : Bool} {f12 : Bool} {f13 : Bool} {f14 : Bool} {f15 : Bool} {f16 : Int} (h : W.heap[g]? = some (.cells #[.bool f0, .bool f1, .int .i64 f2, .bool f3, .bool f4, .bool f5, .bool f6, .int .i64 f7, .bool f8, .bool f9, .bool f10, .bool f11, .bool f12, .bool f13, .bool f14, .bool f15, .int .i64 f16] 23 (0, 0))) : W.cell? ⟨g, 11, none⟩ = some (.bool f11) := (blk_cell h 11).trans rfl
theorem IsS23.set_11 {w0 W : World} {g : Nat} {f0 : Bool} {f1 : Bool} {f2 : Int} {f3 : Bool} {f4 : Bool} {f5 : Bool} {f6 : Bool} {f7 : Int} {f8 : Bool} {f9 : Bool} {f10 : Bool} {f11 : Bool} {f12 : Bool} {f13 : Bool} {f14 : Bool} {f15 : Bool} {f16 : Int} (h : IsS23 w0 W g f0 f1 f2 f3 f4 f5 f6 f7 f8 f9 f10 f11 f12 f13 f14 f15 f16) (x : Bool) : IsS23 w0 (W.setCell ⟨g, 11, none⟩ (.bool x)) g f0 f1 f2 f3 f4 f5 f6 f7 f8 f9 f10 x f12 f13 f14 f15 f16 := by
  obtain ⟨hb, hg⟩ := h
  exact ⟨by simpa using blk_set hb 11 (.bool x), hg⟩
theorem cellS23_12 {W : World} {g : Nat} {f0 : Bool} {f1 : Bool} {f2 : Int} {f3 : Bool} {f4 : Bool} {f5 : Bool} {f6 : Bool} {f7 : Int} {f8 : Bool} {f9 : Bool} {f10 : Bool} {f11 : Bool} {f12 : Bool} {f13 : Bool} {f14 : Bool} {f15 : Bool} {f16 : Int} (h : W.heap[g]? = some (.cells #[.bool f0, .bool f1, .int .i64 f2, .bool f3, .bool f4, .bool f5, .bool f6, .int .i64 f7, .bool f8, .bool f9, .bool f10, .bool f11, .bool f12, .bool f13, .bool f14, .bool f15, .int .i64 f16] 23 (0, 0))) : W.cell? ⟨g, 12, none⟩ = some (.bool f12) := (blk_cell h 12).trans rfl
theorem IsS23.set_12 {w0 W : World} {g : Nat} {f0 : Bool} {f1 : Bool} {f2 : Int} {f3 : Bool} {f4 : Bool} {f5 : Bool} {f6 : Bool} {f7 : Int} {f8 : Bool} {f9 : Bool} {f10 : Bool} {f11 : Bool} {f12 : Bool} {f13 : Bool} {f14 : Bool} {f15 : Bool} {f16 : Int} (h : IsS23 w0 W g f0 f1 f2 f3 f4 f5 f6 f7 f8 f9 f10 f11 f12 f13 f14 f15 f16) (x : Bool) : IsS23 w0 (W.setCell ⟨g, 12, none⟩ (.bool x)) g f0 f1 f2 f3 f4 f5 f6 f7 f8 f9 f10 f11 x f13 f14 f15 f16 := by
  obtain ⟨hb, hg⟩ := h
  exact ⟨by simpa using blk_set hb 12 (.bool x), hg⟩
theorem cellS23_13 {W : World} {g : Nat} {f0 : Bool} {f1 : Bool} {f2 : Int} {f3 : Bool} {f4 : Bool} {f5 : Bool} {f6 : Bool} {f7 : Int} {f8 : Bool} {f9 : Bool} {f10 : Bool} {f11 : Bool} {f12 : Bool} {f13 : Bool} {f14 : Bool} {f15 : Bool} {f16 : Int} (h : W.heap[g]? = some (.cells #[.bool f0, .bool f1, .int .i64 f2, .bool f3, .bool f4, .bool f5, .bool f6, .int .i64 f7, .bool f8, .bool f9, .bool f10, .bool f11, .bool f12, .bool f13, .bool f14, .bool f15, .int .i64 f16] 23 (0, 0))) : W.cell? ⟨g, 13, none⟩ = some (.bool f13) := (blk_cell h 13).trans rfl
theorem IsS23.set_13 {w0 W : World} {g : Nat} {f0 : Bool} {f1 : Bool} {f2 : Int} {f3 : Bool} {f4 : Bool} {f5 : Bool} {f6 : Bool} {f7 : Int} {f8 : Bool} {f9 : Bool} {f10 : Bool} {f11 : Bool} {f12 : Bool} {f13 : Bool} {f14 : Bool} {f15 : Bool} {f16 : Int} (h : IsS23 w0 W g f0 f1 f2 f3 f4 f5 f6 f7 f8 f9 f10 f11 f12 f13 f14 f15 f16) (x : Bool) : IsS23 w0 (W.setCell ⟨g, 13, none⟩ (.bool x)) g f0 f1 f2 f3 f4 f5 f6 f7 f8 f9 f10 f11 f12 x f14 f15 f16 := by
  obtain ⟨hb, hg⟩ := h
  exact ⟨by simpa using blk_set hb 13 (.bool x), hg⟩
theorem cellS23_14 {W : World} {g : Nat} {f0 : Bool} {f1 : Bool} {f2 : Int} {f3 : Bool} {f4 : Bool} {f5 : Bool} {f6 : Bool} {f7 : Int} {f8 : Bool} {f9 : Bool} {f10 : Bool} {f11 : Bool} {f12 : Bool} {f13 : Bool} {f14 : Bool} {f15 : Bool} {f16 : Int} (h : W.heap[g]? = some (.cells #[.bool f0, .bool f1, .int .i64 f2, .bool f3, .bool f4, .bool f5, .bool f6, .int .i64 f7, .bool f8, .bool f9, .bool f10, .bool f11, .bool f12, .bool f13, .bool f14, .bool f15, .int .i64 f16] 23 (0, 0))) : W.cell? ⟨g, 14, none⟩ = some (.bool f14) := (blk_cell h 14).trans rfl
theorem IsS23.set_14 {w0 W : World} {g : Nat} {f0 : Bool} {f1 : Bool} {f2 : Int} {f3 : Bool} {f4 : Bool} {f5 : Bool} {f6 : Bool} {f7 : Int} {f8 : Bool} {f9 : Bool} {f10 : Bool} {f11 : Bool} {f12 : Bool} {f13 : Bool} {f14 : Bool} {f15 : Bool} {f16 : Int} (h : IsS23 w0 W g f0 f1 f2 f3 f4 f5 f6 f7 f8 f9 f10 f11 f12 f13 f14 f15 f16) (x : Bool) : IsS23 w0 (W.setCell ⟨g, 14, none⟩ (.bool x)) g f0 f1 f2 f3 f4 f5 f6 f7 f8 f9 f10 f11 f12 f13 x f15 f16 := by
  obtain ⟨hb, hg⟩ := h
  exact ⟨by simpa using blk_set hb 14 (.bool x), hg⟩
theorem cellS23_15 {W : World} {g : Nat} {f0 : Bool} {f1 : Bool} {f2 : Int} {f3 : Bool} {f4 : Bool} {f5 : Bool} {f6 : Bool} {f7 : Int} {f8 : Bool} {f9 : Bool} {f10 : Bool} {f11 : Bool} {f12 : Bool} {f13 : Bool} {f14 : Bool} {f15 : Bool} {f16 : Int} (h : W.heap[g]? = some (.cells #[.bool f0, .bool f1, .int .i64 f2, .bool f3, .bool f4, .bool f5, .bool f6, .int .i64 f7, .bool f8, .bool f9, .bool f10, .bool f11, .bool f12, .bool f13, .bool f14, .bool f15, .int .i64 f16] 23 (0, 0))) : W.cell? ⟨g, 15, none⟩ = some (.bool f15) := (blk_cell h 15).trans rfl
theorem IsS23.set_15 {w0 W : World} {g : Nat} {f0 : Bool} {f1 : Bool} {f2 : Int} {f3 : Bool} {f4 : Bool} {f5 : Bool} {f6 : Bool} {f7 : Int} {f8 : Bool} {f9 : Bool} {f10 : Bool} {f11 : Bool} {f12 : Bool} {f13 : Bool} {f14 : Bool} {f15 : Bool} {f16 : Int} (h : IsS23 w0 W g f0 f1 f2 f3 f4 f5 f6 f7 f8 f9 f10 f11 f12 f13 f14 f15 f16) (x : Bool) : IsS23 w0 (W.setCell ⟨g, 15, none⟩ (.bool x)) g f0 f1 f2 f3 f4 f5 f6 f7 f8 f9 f10 f11 f12 f13 f14 x f16 := by
  obtain ⟨hb, hg⟩ := h
  exact ⟨by simpa using blk_set hb 15 (.bool x), hg⟩
theorem cellS23_16 {W : World} {g : Nat} {f0 : Bool} {f1 : Bool} {f2 : Int} {f3 : Bool} {f4 : Bool} {f5 : Bool} {f6 : Bool} {f7 : Int} {f8 : Bool} {f9 : Bool} {f10 : Bool} {f11 : Bool} {f12 : Bool} {f13 : Bool} {f14 : Bool} {f15 : Bool} {f16 : Int} (h : W.heap[g]? = some (.cells #[.bool f0, .bool f1, .int .i64 f2, .bool f3, .bool f4, .bool f5, .bool f6, .int .i64 f7, .bool f8, .bool f9, .bool f10, .bool f11, .bool f12, .bool f13, .bool f14, .bool f15, .int .i64 f16] 23 (0, 0))) : W.cell? ⟨g, 16, none⟩ = some (.int .i64 f16) := (blk_cell h 16).trans rfl
theorem IsS23.set_16 {w0 W : World} {g : Nat} {f0 : Bool} {f1 : Bool} {f2 : Int} {f3 : Bool} {f4 : Bool} {f5 : Bool} {f6 : Bool} {f7 : Int} {f8 : Bool} {f9 : Bool} {f10 : Bool} {f11 : Bool} {f12 : Bool} {f13 : Bool} {f14 : Bool} {f15 : Bool} {f16 : Int} (h : IsS23 w0 W g f0 f1 f2 f3 f4 f5 f6 f7 f8 f9 f10 f11 f12 f13 f14 f15 f16) (x : Int) : IsS23 w0 (W.setCell ⟨g, 16, none⟩ (.int .i64 x)) g f0 f1 f2 f3 f4 f5 f6 f7 f8 f9 f10 f11 f12 f13 f14 f15 x := by
  obtain ⟨hb, hg⟩ := h
  exact ⟨by simpa using blk_set hb 16 (.int .i64 x), hg⟩
theorem IsS23.new (w0 W : World) (f0 : Bool) (f1 : Bool) (f2 : Int) (f3 : Bool) (f4 : Bool) (f5 : Bool) (f6 : Bool) (f7 : Int) (f8 : Bool) (f9 : Bool) (f10 : Bool) (f11 : Bool) (f12 : Bool) (f13 : Bool) (f14 : Bool) (f15 : Bool) (f16 : Int) (hB : Below w0.heap.size w0 W) : IsS23 w0 (W.alloc (.cells #[.bool f0, .bool f1, .int .i64 f2, .bool f3, .bool f4, .bool f5, .bool f6, .int .i64 f7, .bool f8, .bool f9, .bool f10, .bool f11, .bool f12, .bool f13, .bool f14, .bool f15, .int .i64 f16] 23)) W.heap.size f0 f1 f2 f3 f4 f5 f6 f7 f8 f9 f10 f11 f12 f13 f14 f15 f16 := ⟨by simpa using heap_alloc_new W _, hB.size⟩

/-! ### faultplan_waited: function 26 -/
def faultplan_waited.f (s0_0 : Bool) (s0_1 : Bool) (s0_2 : Int) (s0_3 : Bool) (s0_4 : Bool) (s0_5 : Bool) (s0_6 : Bool) (s0_7 : Int) (s0_8 : Bool) (s0_9 : Bool) (s0_10 : Bool) (s0_11 : Bool) (s0_12 : Bool) (s0_13 : Bool) (s0_14 : Bool) (s0_15 : Bool) (s0_16 : Int) (a1 : Int) : Option (Bool × Bool × Int × Bool × Bool × Bool × Bool × Int × Bool × Bool × Bool × Bool × Bool × Bool × Bool × Bool × Int) := if a1 = 4 then (some (s0_0, s0_1, s0_2, s0_3, s0_4, s0_5, false, s0_7, s0_8, s0_9, s0_10, s0_11, s0_12, s0_13, s0_14, s0_15, s0_16)) else (if a1 = 5 then (some (s0_0, s0_1, s0_2, s0_3, s0_4, s0_5, s0_6, s0_7, s0_8, s0_9, s0_10, s0_11, s0_12, s0_13, s0_14, false, s0_16)) else (if a1 = 3 then (if s0_7 = 3 then (some (s0_0, s0_1, s0_2, s0_3, s0_4, s0_5, s0_6, 1, s0_8, false, s0_10, s0_11, s0_12, s0_13, s0_14, s0_15, s0_16)) else (some (s0_0, s0_1, s0_2, s0_3, s0_4, s0_5, s0_6, s0_7, s0_8, false, s0_10, s0_11, s0_12, s0_13, s0_14, s0_15, s0_16))) else (some (s0_0, s0_1, s0_2, s0_3, s0_4, s0_5, s0_6, s0_7, s0_8, s0_9, s0_10, s0_11, s0_12, s0_13, s0_14, s0_15, s0_16))))
set_option maxHeartbeats 8000000 in
set_option maxRecDepth 100000 in
theorem faultplan_waited.calls (g : Nat) (s0_0 : Bool) (s0_1 : Bool) (s0_2 : Int) (s0_3 : Bool) (s0_4 : Bool) (s0_5 : Bool) (s0_6 : Bool) (s0_7 : Int) (s0_8 : Bool) (s0_9 : Bool) (s0_10 : Bool) (s0_11 : Bool) (s0_12 : Bool) (s0_13 : Bool) (s0_14 : Bool) (s0_15 : Bool) (s0_16 : Int) (a1 : Int) (r1 : Bool) (r2 : Bool) (r3 : Int) (r4 : Bool) (r5 : Bool) (r6 : Bool) (r7 : Bool) (r8 : Int) (r9 : Bool) (r10 : Bool) (r11 : Bool) (r12 : Bool) (r13 : Bool) (r14 : Bool) (r15 : Bool) (r16 : Bool) (r17 : Int) (w0 w : World) (hI : IsS23 w0 w g s0_0 s0_1 s0_2 s0_3 s0_4 s0_5 s0_6 s0_7 s0_8 s0_9 s0_10 s0_11 s0_12 s0_13 s0_14 s0_15 s0_16) (hB : Below w0.heap.size w0 w) (h : faultplan_waited.f s0_0 s0_1 s0_2 s0_3 s0_4 s0_5 s0_6 s0_7 s0_8 s0_9 s0_10 s0_11 s0_12 s0_13 s0_14 s0_15 s0_16 a1 = some (r1, r2, r3, r4, r5, r6, r7, r8, r9, r10, r11, r12, r13, r14, r15, r16, r17)) :
    Calls Try.prog 26 #[.pointer (some ⟨g, 0, none⟩), .int .i64 a1] w fun e w' => e = .returned (.tuple #[]) ∧ IsS23 w0 w' g r1 r2 r3 r4 r5 r6 r7 r8 r9 r10 r11 r12 r13 r14 r15 r16 r17 ∧ Below w0.heap.size w0 w' ∧ KeepBut w w' g none := by
  have HI0 := Aside0.mk hI
  have HK := Aside0.mk (KeepBut.refl w g none)
  have HL := Aside0.mk hB.size
  clear hI
  have HW0 := Aside0.mk hB.size
  have HB := Aside0.mk hB
  clear hB
  have H : (if a1 = 4 then (some (s0_0, s0_1, s0_2, s0_3, s0_4, s0_5, false, s0_7, s0_8, s0_9, s0_10, s0_11, s0_12, s0_13, s0_14, s0_15, s0_16)) else (if a1 = 5 then (some (s0_0, s0_1, s0_2, s0_3, s0_4, s0_5, s0_6, s0_7, s0_8, s0_9, s0_10, s0_11, s0_12, s0_13, s0_14, false, s0_16)) else (if a1 = 3 then (if s0_7 = 3 then (some (s0_0, s0_1, s0_2, s0_3, s0_4, s0_5, s0_6, 1, s0_8, false, s0_10, s0_11, s0_12, s0_13, s0_14, s0_15, s0_16)) else (some (s0_0, s0_1, s0_2, s0_3, s0_4, s0_5, s0_6, s0_7, s0_8, false, s0_10, s0_11, s0_12, s0_13, s0_14, s0_15, s0_16))) else (some (s0_0, s0_1, s0_2, s0_3, s0_4, s0_5, s0_6, s0_7, s0_8, s0_9, s0_10, s0_11, s0_12, s0_13, s0_14, s0_15, s0_16))))) = some (r1, r2, r3, r4, r5, r6, r7, r8, r9, r10, r11, r12, r13, r14, r15, r16, r17) := h
  clear h
  by_cases c3 : a1 = 4
  · rw [if_pos c3] at H
    have c3b0 : (a1 == 4) = true := beq_iff_eq.mpr c3
    have c3b1 : (a1 != 4) = false := bne_eq_false_iff_eq.mpr c3
    clear c3
    simp only [Option.some.injEq, Prod.mk.injEq] at H
    obtain ⟨rfl, rfl, rfl, rfl, rfl, rfl, rfl, rfl, rfl, rfl, rfl, rfl, rfl, rfl, rfl, rfl, rfl⟩ := H
    obtain ⟨HGz4, hgz4⟩ := HI0.out
    have hcz4_0 := cellS23_0 HGz4
    have hcz4_1 := cellS23_1 HGz4
    have hcz4_2 := cellS23_2 HGz4
    have hcz4_3 := cellS23_3 HGz4
    have hcz4_4 := cellS23_4 HGz4
    have hcz4_5 := cellS23_5 HGz4
    have hcz4_6 := cellS23_6 HGz4
    have hcz4_7 := cellS23_7 HGz4
    have hcz4_8 := cellS23_8 HGz4
    have hcz4_9 := cellS23_9 HGz4
    have hcz4_10 := cellS23_10 HGz4
    have hcz4_11 := cellS23_11 HGz4
    have hcz4_12 := cellS23_12 HGz4
    have hcz4_13 := cellS23_13 HGz4
    have hcz4_14 := cellS23_14 HGz4
    have hcz4_15 := cellS23_15 HGz4
    have hcz4_16 := cellS23_16 HGz4
    have hfz4_0 := blk_frozen HGz4 0
    have hfz4_1 := blk_frozen HGz4 1
    have hfz4_2 := blk_frozen HGz4 2
    have hfz4_3 := blk_frozen HGz4 3
    have hfz4_4 := blk_frozen HGz4 4
    have hfz4_5 := blk_frozen HGz4 5
    have hfz4_6 := blk_frozen HGz4 6
    have hfz4_7 := blk_frozen HGz4 7
    have hfz4_8 := blk_frozen HGz4 8
    have hfz4_9 := blk_frozen HGz4 9
    have hfz4_10 := blk_frozen HGz4 10
    have hfz4_11 := blk_frozen HGz4 11
    have hfz4_12 := blk_frozen HGz4 12
    have hfz4_13 := blk_frozen HGz4 13
    have hfz4_14 := blk_frozen HGz4 14
    have hfz4_15 := blk_frozen HGz4 15
    have hfz4_16 := blk_frozen HGz4 16
    clear HGz4 hgz4
    go_enter Try.func26, Try.ntmps26
    go_wp2
    first | go_end0 | ((try simp only [Exit.inBlock, Exit.then]); refine bodyPost_ret (results_none rfl _ _ _) rfl ?_)
    exact ⟨by first | rfl | (simp [errW_none, errW_some] <;> rfl) | (simp [*, errW_none, errW_some] <;> rfl), by repeat (first | (with_reducible first | exact HI0.out | apply IsS23.alloc | apply IsS23.drewN | apply IsS23.drew | apply IsS23.set_0 | apply IsS23.set_1 | apply IsS23.set_2 | apply IsS23.set_3 | apply IsS23.set_4 | apply IsS23.set_5 | apply IsS23.set_6 | apply IsS23.set_7 | apply IsS23.set_8 | apply IsS23.set_9 | apply IsS23.set_10 | apply IsS23.set_11 | apply IsS23.set_12 | apply IsS23.set_13 | apply IsS23.set_14 | apply IsS23.set_15 | apply IsS23.set_16) | exact HI0.out), by repeat (first | (with_reducible first | exact HB.out | apply below_alloc | apply pw_below_drewN | apply below_drew1 | refine below_set ?_ (IsS23.ge HI0.out)) | exact HB.out), by repeat (first | (with_reducible first | exact HK.out | apply KeepBut.set_ | apply keep_drewN | apply keep_drew | apply keep_alloc) | exact HK.out)⟩
  · rw [if_neg c3] at H
    have c3b0 : (a1 == 4) = false := beq_eq_false_iff_ne.mpr c3
    have c3b1 : (a1 != 4) = true := bne_iff_ne.mpr c3
    by_cases c5 : a1 = 5
    · rw [if_pos c5] at H
      have c5b0 : (a1 == 5) = true := beq_iff_eq.mpr c5
      have c5b1 : (a1 != 5) = false := bne_eq_false_iff_eq.mpr c5
      clear c5
      simp only [Option.some.injEq, Prod.mk.injEq] at H
      obtain ⟨rfl, rfl, rfl, rfl, rfl, rfl, rfl, rfl, rfl, rfl, rfl, rfl, rfl, rfl, rfl, rfl, rfl⟩ := H
      obtain ⟨HGz6, hgz6⟩ := HI0.out
      have hcz6_0 := cellS23_0 HGz6
      have hcz6_1 := cellS23_1 HGz6
      have hcz6_2 := cellS23_2 HGz6
      have hcz6_3 := cellS23_3 HGz6
      have hcz6_4 := cellS23_4 HGz6
      have hcz6_5 := cellS23_5 HGz6
      have hcz6_6 := cellS23_6 HGz6
      have hcz6_7 := cellS23_7 HGz6
      have hcz6_8 := cellS23_8 HGz6
      have hcz6_9 := cellS23_9 HGz6
      have hcz6_10 := cellS23_10 HGz6
      have hcz6_11 := cellS23_11 HGz6
      have hcz6_12 := cellS23_12 HGz6
      have hcz6_13 := cellS23_13 HGz6
      have hcz6_14 := cellS23_14 HGz6
      have hcz6_15 := cellS23_15 HGz6
      have hcz6_16 := cellS23_16 HGz6
      have hfz6_0 := blk_frozen HGz6 0
      have hfz6_1 := blk_frozen HGz6 1
      have hfz6_2 := blk_frozen HGz6 2
      have hfz6_3 := blk_frozen HGz6 3
      have hfz6_4 := blk_frozen HGz6 4
      have hfz6_5 := blk_frozen HGz6 5
      have hfz6_6 := blk_frozen HGz6 6
      have hfz6_7 := blk_frozen HGz6 7
      have hfz6_8 := blk_frozen HGz6 8
      have hfz6_9 := blk_frozen HGz6 9
      have hfz6_10 := blk_frozen HGz6 10
      have hfz6_11 := blk_frozen HGz6 11
      have hfz6_12 := blk_frozen HGz6 12
      have hfz6_13 := blk_frozen HGz6 13
      have hfz6_14 := blk_frozen HGz6 14
      have hfz6_15 := blk_frozen HGz6 15
      have hfz6_16 := blk_frozen HGz6 16
      clear HGz6 hgz6
      go_enter Try.func26, Try.ntmps26
      go_wp2
      first | go_end0 | ((try simp only [Exit.inBlock, Exit.then]); refine bodyPost_ret (results_none rfl _ _ _) rfl ?_)
      exact ⟨by first | rfl | (simp [errW_none, errW_some] <;> rfl) | (simp [*, errW_none, errW_some] <;> rfl), by repeat (first | (with_reducible first | exact HI0.out | apply IsS23.alloc | apply IsS23.drewN | apply IsS23.drew | apply IsS23.set_0 | apply IsS23.set_1 | apply IsS23.set_2 | apply IsS23.set_3 | apply IsS23.set_4 | apply IsS23.set_5 | apply IsS23.set_6 | apply IsS23.set_7 | apply IsS23.set_8 | apply IsS23.set_9 | apply IsS23.set_10 | apply IsS23.set_11 | apply IsS23.set_12 | apply IsS23.set_13 | apply IsS23.set_14 | apply IsS23.set_15 | apply IsS23.set_16) | exact HI0.out), by repeat (first | (with_reducible first | exact HB.out | apply below_alloc | apply pw_below_drewN | apply below_drew1 | refine below_set ?_ (IsS23.ge HI0.out)) | exact HB.out), by repeat (first | (with_reducible first | exact HK.out | apply KeepBut.set_ | apply keep_drewN | apply keep_drew | apply keep_alloc) | exact HK.out)⟩
    · rw [if_neg c5] at H
      have c5b0 : (a1 == 5) = false := beq_eq_false_iff_ne.mpr c5
      have c5b1 : (a1 != 5) = true := bne_iff_ne.mpr c5
      by_cases c7 : a1 = 3
      · rw [if_pos c7] at H
        have c7b0 : (a1 == 3) = true := beq_iff_eq.mpr c7
        have c7b1 : (a1 != 3) = false := bne_eq_false_iff_eq.mpr c7
        clear c7
        by_cases c8 : s0_7 = 3
        · rw [if_pos c8] at H
          have c8b0 : (s0_7 == 3) = true := beq_iff_eq.mpr c8
          have c8b1 : (s0_7 != 3) = false := bne_eq_false_iff_eq.mpr c8
          clear c8
          simp only [Option.some.injEq, Prod.mk.injEq] at H
          obtain ⟨rfl, rfl, rfl, rfl, rfl, rfl, rfl, rfl, rfl, rfl, rfl, rfl, rfl, rfl, rfl, rfl, rfl⟩ := H
          obtain ⟨HGz9, hgz9⟩ := HI0.out
          have hcz9_0 := cellS23_0 HGz9
          have hcz9_1 := cellS23_1 HGz9
          have hcz9_2 := cellS23_2 HGz9
          have hcz9_3 := cellS23_3 HGz9
          have hcz9_4 := cellS23_4 HGz9
          have hcz9_5 := cellS23_5 HGz9
          have hcz9_6 := cellS23_6 HGz9
          have hcz9_7 := cellS23_7 HGz9
          have hcz9_8 := cellS23_8 HGz9
          have hcz9_9 := cellS23_9 HGz9
          have hcz9_10 := cellS23_10 HGz9
          have hcz9_11 := cellS23_11 HGz9
          have hcz9_12 := cellS23_12 HGz9
          have hcz9_13 := cellS23_13 HGz9
          have hcz9_14 := cellS23_14 HGz9
          have hcz9_15 := cellS23_15 HGz9
          have hcz9_16 := cellS23_16 HGz9
          have hfz9_0 := blk_frozen HGz9 0
          have hfz9_1 := blk_frozen HGz9 1
          have hfz9_2 := blk_frozen HGz9 2
          have hfz9_3 := blk_frozen HGz9 3
          have hfz9_4 := blk_frozen HGz9 4
          have hfz9_5 := blk_frozen HGz9 5
          have hfz9_6 := blk_frozen HGz9 6
          have hfz9_7 := blk_frozen HGz9 7
          have hfz9_8 := blk_frozen HGz9 8
          have hfz9_9 := blk_frozen HGz9 9
          have hfz9_10 := blk_frozen HGz9 10
          have hfz9_11 := blk_frozen HGz9 11
          have hfz9_12 := blk_frozen HGz9 12
          have hfz9_13 := blk_frozen HGz9 13
          have hfz9_14 := blk_frozen HGz9 14
          have hfz9_15 := blk_frozen HGz9 15
          have hfz9_16 := blk_frozen HGz9 16
          clear HGz9 hgz9
          go_enter Try.func26, Try.ntmps26
          go_wp2
          first | go_end0 | ((try simp only [Exit.inBlock, Exit.then]); refine bodyPost_ret (results_none rfl _ _ _) rfl ?_)
          exact ⟨by first | rfl | (simp [errW_none, errW_some] <;> rfl) | (simp [*, errW_none, errW_some] <;> rfl), by repeat (first | (with_reducible first | exact HI0.out | apply IsS23.alloc | apply IsS23.drewN | apply IsS23.drew | apply IsS23.set_0 | apply IsS23.set_1 | apply IsS23.set_2 | apply IsS23.set_3 | apply IsS23.set_4 | apply IsS23.set_5 | apply IsS23.set_6 | apply IsS23.set_7 | apply IsS23.set_8 | apply IsS23.set_9 | apply IsS23.set_10 | apply IsS23.set_11 | apply IsS23.set_12 | apply IsS23.set_13 | apply IsS23.set_14 | apply IsS23.set_15 | apply IsS23.set_16) | exact HI0.out), by repeat (first | (with_reducible first | exact HB.out | apply below_alloc | apply pw_below_drewN | apply below_drew1 | refine below_set ?_ (IsS23.ge HI0.out)) | exact HB.out), by repeat (first | (with_reducible first | exact HK.out | apply KeepBut.set_ | apply keep_drewN | apply keep_drew | apply keep_alloc) | exact HK.out)⟩
        · rw [if_neg c8] at H
          have c8b0 : (s0_7 == 3) = false := beq_eq_false_iff_ne.mpr c8
          have c8b1 : (s0_7 != 3) = true := bne_iff_ne.mpr c8
          simp only [Option.some.injEq, Prod.mk.injEq] at H
          obtain ⟨rfl, rfl, rfl, rfl, rfl, rfl, rfl, rfl, rfl, rfl, rfl, rfl, rfl, rfl, rfl, rfl, rfl⟩ := H
          obtain ⟨HGz10, hgz10⟩ := HI0.out
          have hcz10_0 := cellS23_0 HGz10
          have hcz10_1 := cellS23_1 HGz10
          have hcz10_2 := cellS23_2 HGz10
          have hcz10_3 := cellS23_3 HGz10
          have hcz10_4 := cellS23_4 HGz10
          have hcz10_5 := cellS23_5 HGz10
          have hcz10_6 := cellS23_6 HGz10
          have hcz10_7 := cellS23_7 HGz10
          have hcz10_8 := cellS23_8 HGz10
          have hcz10_9 := cellS23_9 HGz10
          have hcz10_10 := cellS23_10 HGz10
          have hcz10_11 := cellS23_11 HGz10
          have hcz10_12 := cellS23_12 HGz10
          have hcz10_13 := cellS23_13 HGz10
          have hcz10_14 := cellS23_14 HGz10
          have hcz10_15 := cellS23_15 HGz10
          have hcz10_16 := cellS23_16 HGz10
          have hfz10_0 := blk_frozen HGz10 0
          have hfz10_1 := blk_frozen HGz10 1
          have hfz10_2 := blk_frozen HGz10 2
          have hfz10_3 := blk_frozen HGz10 3
          have hfz10_4 := blk_frozen HGz10 4
          have hfz10_5 := blk_frozen HGz10 5
          have hfz10_6 := blk_frozen HGz10 6
          have hfz10_7 := blk_frozen HGz10 7
          have hfz10_8 := blk_frozen HGz10 8
          have hfz10_9 := blk_frozen HGz10 9
          have hfz10_10 := blk_frozen HGz10 10
          have hfz10_11 := blk_frozen HGz10 11
          have hfz10_12 := blk_frozen HGz10 12
          have hfz10_13 := blk_frozen HGz10 13
          have hfz10_14 := blk_frozen HGz10 14
          have hfz10_15 := blk_frozen HGz10 15
          have hfz10_16 := blk_frozen HGz10 16
          clear HGz10 hgz10
          go_enter Try.func26, Try.ntmps26
          go_wp2
          first | go_end0 | ((try simp only [Exit.inBlock, Exit.then]); refine bodyPost_ret (results_none rfl _ _ _) rfl ?_)
          exact ⟨by first | rfl | (simp [errW_none, errW_some] <;> rfl) | (simp [*, errW_none, errW_some] <;> rfl), by repeat (first | (with_reducible first | exact HI0.out | apply IsS23.alloc | apply IsS23.drewN | apply IsS23.drew | apply IsS23.set_0 | apply IsS23.set_1 | apply IsS23.set_2 | apply IsS23.set_3 | apply IsS23.set_4 | apply IsS23.set_5 | apply IsS23.set_6 | apply IsS23.set_7 | apply IsS23.set_8 | apply IsS23.set_9 | apply IsS23.set_10 | apply IsS23.set_11 | apply IsS23.set_12 | apply IsS23.set_13 | apply IsS23.set_14 | apply IsS23.set_15 | apply IsS23.set_16) | exact HI0.out), by repeat (first | (with_reducible first | exact HB.out | apply below_alloc | apply pw_below_drewN | apply below_drew1 | refine below_set ?_ (IsS23.ge HI0.out)) | exact HB.out), by repeat (first | (with_reducible first | exact HK.out | apply KeepBut.set_ | apply keep_drewN | apply keep_drew | apply keep_alloc) | exact HK.out)⟩
      · rw [if_neg c7] at H
        have c7b0 : (a1 == 3) = false := beq_eq_false_iff_ne.mpr c7
        have c7b1 : (a1 != 3) = true := bne_iff_ne.mpr c7
        simp only [Option.some.injEq, Prod.mk.injEq] at H
        obtain ⟨rfl, rfl, rfl, rfl, rfl, rfl, rfl, rfl, rfl, rfl, rfl, rfl, rfl, rfl, rfl, rfl, rfl⟩ := H
        go_enter Try.func26, Try.ntmps26
        go_wp2
        first | go_end0 | ((try simp only [Exit.inBlock, Exit.then]); refine bodyPost_ret (results_none rfl _ _ _) rfl ?_)
        exact ⟨by first | rfl | (simp [errW_none, errW_some] <;> rfl) | (simp [*, errW_none, errW_some] <;> rfl), by repeat (first | (with_reducible first | exact HI0.out | apply IsS23.alloc | apply IsS23.drewN | apply IsS23.drew | apply IsS23.set_0 | apply IsS23.set_1 | apply IsS23.set_2 | apply IsS23.set_3 | apply IsS23.set_4 | apply IsS23.set_5 | apply IsS23.set_6 | apply IsS23.set_7 | apply IsS23.set_8 | apply IsS23.set_9 | apply IsS23.set_10 | apply IsS23.set_11 | apply IsS23.set_12 | apply IsS23.set_13 | apply IsS23.set_14 | apply IsS23.set_15 | apply IsS23.set_16) | exact HI0.out), by repeat (first | (with_reducible first | exact HB.out | apply below_alloc | apply pw_below_drewN | apply below_drew1 | refine below_set ?_ (IsS23.ge HI0.out)) | exact HB.out), by repeat (first | (with_reducible first | exact HK.out | apply KeepBut.set_ | apply keep_drewN | apply keep_drew | apply keep_alloc) | exact HK.out)⟩

end Go.Proofs.Ytfobedaepflidaa.F

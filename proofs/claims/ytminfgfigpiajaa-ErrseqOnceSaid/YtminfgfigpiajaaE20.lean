-- Written by a program of this session (own_print.py) that runs the kit's printer. Lean checks it.
import Derived.Test.YtminfgfigpiajaaE0
import Derived.Test.YtminfgfigpiajaaE2
import Derived.Test.YtminfgfigpiajaaE4
import Derived.Test.YtminfgfigpiajaaE5
import Derived.Test.YtminfgfigpiajaaE6
import Derived.Test.YtminfgfigpiajaaE7
import Derived.Test.YtminfgfigpiajaaE8
namespace Go.Proofs.Ytminfgfigpiajaa.E
open Go.RowKit Go.Proofs.YtminfgfigpiajaaW.PrintWords Go.Proofs.YtminfgfigpiajaaW.PrintLast Go.Proofs.YtminfgfigpiajaaW.PrintMore
attribute [local go_sem] max2_int min2_int max_two min_two max_three min_three max_four min_four   -- for this text's walks alone
set_option linter.unusedVariables false
set_option linter.unusedSimpArgs false

/-! ### estoverslaw29_play: function 19 -/
/-- The history at block g: its numbers, its two slices of four. -/
structure OnceW (w : World) (g gk gb : Nat) (E S : Int) (kc bc : Array Value) : Prop where
  hg : w.heap[g]? = some (.cells #[.int .i64 E, .int .i64 S, .slice (some ⟨gk, 0, none⟩) 4 4, .slice (some ⟨gb, 0, none⟩) 4 4] 47 (0, 0))
  hk : w.heap[gk]? = some (.cells kc 3 (0, 0))
  hks : kc.size = 4
  hb : w.heap[gb]? = some (.cells bc 4 (0, 0))
  hbs : bc.size = 4
set_option maxHeartbeats 1000000 in
theorem once_Begin (g gk gb : Nat) (E S : Int) (kc bc : Array Value) (i : Nat) (hi : i < 4) (w : World) (H : OnceW w g gk gb E S kc bc) :
    Calls Try.prog 23 #[.pointer (some ⟨g, 0, none⟩), .int .i64 (i : Int)] w fun e w' => e = .returned (.tuple #[]) ∧ ∃ n, w' = ((w.setCell ⟨gb, i, none⟩ (.bool true)).setCell ⟨gk, i, none⟩ (.int .i64 S)).drewN n := by
  obtain ⟨hg, hk, hks, hb, hbs⟩ := H
  have c1 := (blk_cell hg 1).trans (rfl : _ = some (Value.int .i64 S))
  have c2 := (blk_cell hg 2).trans (rfl : _ = some (Value.slice (some ⟨gk, 0, none⟩) 4 4))
  have c3 := (blk_cell hg 3).trans (rfl : _ = some (Value.slice (some ⟨gb, 0, none⟩) 4 4))
  have c4 : w.cell? ⟨gb, i, none⟩ = some bc[i] := (blk_cell hb i).trans (by simp)
  have c5 : w.cell? ⟨gk, i, none⟩ = some kc[i] := (blk_cell hk i).trans (by simp)
  have z4 := blk_frozen hb i
  have z5 := blk_frozen hk i
  have n1 : g ≠ gb := by rintro rfl; rw [hg] at hb; simp at hb
  have n2 : g ≠ gk := by rintro rfl; rw [hg] at hk; simp at hk
  have n3 : gk ≠ gb := by rintro rfl; rw [hk] at hb; simp at hb
  have n4 := Ne.symm n3
  have n5 := Ne.symm n1
  have HG := Aside0.mk hg; have HK := Aside0.mk hk; have HBB := Aside0.mk hb
  clear hg hk hb
  go_enter Try.func23, Try.ntmps23
  go_wp2
  go_region
  go_wp2
  go_end0
  exact ⟨rfl, 1, rfl⟩
set_option maxHeartbeats 1000000 in
theorem once_Fail (g gk gb : Nat) (E S : Int) (kc bc : Array Value) (h0 : 0 ≤ E) (h1 : E < 1000) (w : World) (H : OnceW w g gk gb E S kc bc) :
    Calls Try.prog 22 #[.pointer (some ⟨g, 0, none⟩)] w fun e w' => e = .returned (.tuple #[]) ∧ ∃ n, w' = (w.setCell ⟨g, 0, none⟩ (.int .i64 (E + 1))).drewN n := by
  obtain ⟨hg, hk, hks, hb, hbs⟩ := H
  have c0 := (blk_cell hg 0).trans (rfl : _ = some (Value.int .i64 E))
  have z0 := blk_frozen hg 0
  have HG := Aside0.mk hg; have HK := Aside0.mk hk; have HBB := Aside0.mk hb
  clear hg hk hb
  go_enter Try.func22, Try.ntmps22
  go_wp2
  go_end0
  exact ⟨rfl, 0, rfl⟩
set_option maxHeartbeats 1000000 in
theorem once_Ask (g gk gb : Nat) (E S K : Int) (kc bc : Array Value) (i : Nat) (hi : i < 4) (hK : kc[i]? = some (.int .i64 K)) (w : World) (H : OnceW w g gk gb E S kc bc) :
    Calls Try.prog 24 #[.pointer (some ⟨g, 0, none⟩), .int .i64 (i : Int)] w fun e w' => e = .returned (.bool (decide (K < E))) ∧ ∃ n, w' = (((if K < E then w.setCell ⟨g, 1, none⟩ (.int .i64 E) else w)).setCell ⟨gk, i, none⟩ (.int .i64 E)).drewN n := by
  obtain ⟨hg, hk, hks, hb, hbs⟩ := H
  have c0 := (blk_cell hg 0).trans (rfl : _ = some (Value.int .i64 E))
  have c1 := (blk_cell hg 1).trans (rfl : _ = some (Value.int .i64 S))
  have c2 := (blk_cell hg 2).trans (rfl : _ = some (Value.slice (some ⟨gk, 0, none⟩) 4 4))
  have c5 : w.cell? ⟨gk, i, none⟩ = some (.int .i64 K) := (blk_cell hk i).trans hK
  have z1 := blk_frozen hg 1
  have z5 := blk_frozen hk i
  have n2 : g ≠ gk := by rintro rfl; rw [hg] at hk; simp at hk
  have n5 := Ne.symm n2
  have HG := Aside0.mk hg; have HK := Aside0.mk hk; have HBB := Aside0.mk hb; have HKK := Aside0.mk hK
  clear hg hk hb hK
  by_cases c : K < E
  · have cd : decide (K < E) = true := decide_eq_true c
    rw [if_pos c]
    go_enter Try.func24, Try.ntmps24
    go_wp2
    go_quiet (fail)
    go_wp2
    go_region
    go_wp2
    go_ret
    exact ⟨by simp [c], nq + 1, rfl⟩
  · have cd : decide (K < E) = false := decide_eq_false c
    rw [if_neg c]
    go_enter Try.func24, Try.ntmps24
    go_wp2
    go_quiet (fail)
    go_wp2
    go_region
    go_wp2
    go_ret
    exact ⟨by simp [c], nq + 1, rfl⟩
theorem once_three (w : World) (o1 o2 o3 : Obj) : (((w.alloc o1).alloc o2).alloc o3).drew.heap[w.heap.size]? = some o1 ∧ (((w.alloc o1).alloc o2).alloc o3).drew.heap[w.heap.size + 1]? = some o2 ∧ (((w.alloc o1).alloc o2).alloc o3).drew.heap[w.heap.size + 1 + 1]? = some o3 ∧ Below w.heap.size w (((w.alloc o1).alloc o2).alloc o3).drew := by
  have s1 : (w.alloc o1).heap.size = w.heap.size + 1 := by simp
  have s2 : ((w.alloc o1).alloc o2).heap.size = w.heap.size + 1 + 1 := by simp
  have h1 := blk_new (w.alloc o1) o2
  have h2 := blk_new ((w.alloc o1).alloc o2) o3
  rw [s1] at h1
  rw [s2] at h2
  have hb := below_alloc (below_alloc (below_alloc (Below.refl w.heap.size w) o1) o2) o3
  exact ⟨blk_alloc (blk_alloc (blk_new w o1) o2) o3, blk_alloc h1 o3, h2, ⟨hb.os, hb.tape, hb.output, hb.size, hb.block⟩⟩
set_option maxHeartbeats 1000000 in
theorem once_Start (w : World) :
    Calls Try.prog 21 #[.int .i64 4] w fun e w' => ∃ g gk gb, e = .returned (.pointer (some ⟨g, 0, none⟩)) ∧ Below w.heap.size w w' ∧ w.heap.size ≤ g ∧ w.heap.size ≤ gk ∧ w.heap.size ≤ gb ∧ OnceW w' g gk gb 0 0 #[.int .i64 0, .int .i64 0, .int .i64 0, .int .i64 0] #[.bool false, .bool false, .bool false, .bool false] := by
  have hm1 : ∀ W : World, (Instr.makeSlice 45 (.int .i64 4) (.int .i64 4)).run Try.prog W = .ok (.slice (some ⟨W.heap.size, 0, none⟩) 4 4) (W.alloc (.cells #[.int .i64 0, .int .i64 0, .int .i64 0, .int .i64 0] 3)) := fun _ => by kernel_rfl
  have hm2 : ∀ W : World, (Instr.makeSlice 35 (.int .i64 4) (.int .i64 4)).run Try.prog W = .ok (.slice (some ⟨W.heap.size, 0, none⟩) 4 4) (W.alloc (.cells #[.bool false, .bool false, .bool false, .bool false] 4)) := fun _ => by kernel_rfl
  go_enter Try.func21, Try.ntmps21
  go_wp2
  go_region
  all_goals go_wp2
  all_goals go_ret
  · obtain ⟨h0, h1, h2, h3⟩ := once_three w (.cells #[.int .i64 0, .int .i64 0, .int .i64 0, .int .i64 0] 3) (.cells #[.bool false, .bool false, .bool false, .bool false] 4) (.cells #[.int .i64 0, .int .i64 0, .slice (some ⟨w.heap.size, 0, none⟩) 4 4, .slice (some ⟨w.heap.size + 1, 0, none⟩) 4 4] 47)
    exact ⟨w.heap.size + 1 + 1, w.heap.size, w.heap.size + 1, rfl, h3, by omega, by omega, by omega, h2, h0, rfl, h1, rfl⟩
  · obtain ⟨h0, h1, h2, h3⟩ := once_three w (.cells #[.bool false, .bool false, .bool false, .bool false] 4) (.cells #[.int .i64 0, .int .i64 0, .int .i64 0, .int .i64 0] 3) (.cells #[.int .i64 0, .int .i64 0, .slice (some ⟨w.heap.size + 1, 0, none⟩) 4 4, .slice (some ⟨w.heap.size, 0, none⟩) 4 4] 47)
    exact ⟨w.heap.size + 1 + 1, w.heap.size + 1, w.heap.size, rfl, h3, by omega, by omega, by omega, h2, h1, rfl, h0, rfl⟩
/-- What is in the sequence and in the history. -/
structure OnceP where
  E : Int
  S : Int
  c : Int
  s : Bool
  ks : List Int
  bs : List Bool
  ats : List Int
/-- How sequence and history go together. -/
structure OnceInv (p : OnceP) (n : Nat) : Prop where
  S0 : 0 ≤ p.S
  SE : p.S ≤ p.E
  En : p.E ≤ n
  c0 : 0 ≤ p.c
  cn : p.c ≤ n
  val : p.c > 0 ∨ p.s = false
  fresh : (p.c > 0 ∧ p.s = false) ↔ p.S < p.E
  lk : p.ks.length = 4
  lb : p.bs.length = 4
  la : p.ats.length = 4
  k0 : ∀ j, j < 4 → 0 ≤ p.ks.getD j 0 ∧ p.ks.getD j 0 ≤ p.S
  a0 : ∀ j, j < 4 → 0 ≤ p.ats.getD j 0 ∧ p.ats.getD j 0 ≤ p.c
  ka : ∀ j, j < 4 → (p.ats.getD j 0 < p.c ↔ p.ks.getD j 0 < p.E)
def onceI (l : List Int) : Array Value := (l.map (Value.int .i64)).toArray
def onceB (l : List Bool) : Array Value := (l.map Value.bool).toArray
/-- Where it lies. -/
structure OnceM (w0 w : World) (g gk gb ga ge : Nat) (v : Value) (n : Nat) (p : OnceP) : Prop where
  hW : OnceW w g gk gb p.E p.S (onceI p.ks) (onceB p.bs)
  hA : w.heap[ga]? = some (.cells (onceI p.ats) 41 (0, 0))
  hE : w.heap[ge]? = some (.cells #[.int .i64 p.c, .bool p.s] 23 (0, 0))
  hT : ∃ xs : List Bool, Kd.R Kd.bool 4 w w0.heap.size (fun k => k ≠ gb) v xs ∧ xs.length ≤ n
  hB : Below w0.heap.size w0 w
  lg : w0.heap.size ≤ g
  lk : w0.heap.size ≤ gk
  lb : w0.heap.size ≤ gb
  la : w0.heap.size ≤ ga
  le : w0.heap.size ≤ ge
theorem OnceM.more {w0 w : World} {g gk gb ga ge : Nat} {v : Value} {n : Nat} {p : OnceP} (h : OnceM w0 w g gk gb ga ge v n p) : OnceM w0 w g gk gb ga ge v (n + 1) p := by
  obtain ⟨a1, a2, a3, ⟨xs, h1, h2⟩, a5, a6, a7, a8, a9, a10⟩ := h
  exact ⟨a1, a2, a3, ⟨xs, h1, by omega⟩, a5, a6, a7, a8, a9, a10⟩
theorem OnceM.below {w0 w w1 : World} {g gk gb ga ge : Nat} {v : Value} {n : Nat} {p : OnceP} (h : OnceM w0 w g gk gb ga ge v n p) (hb : Below w.heap.size w w1) : OnceM w0 w1 g gk gb ga ge v n p := by
  obtain ⟨⟨b1, b2, b3, b4, b5⟩, a2, a3, ⟨xs, h1, h2⟩, a5, a6, a7, a8, a9, a10⟩ := h
  exact ⟨⟨blk_below b1 hb, blk_below b2 hb, b3, blk_below b4 hb, b5⟩, blk_below a2 hb, blk_below a3 hb, ⟨xs, Kd.R_below h1 hb, h2⟩, below_step a5 hb, a6, a7, a8, a9, a10⟩
theorem OnceM.drewN {w0 w : World} {g gk gb ga ge : Nat} {v : Value} {n : Nat} {p : OnceP} (h : OnceM w0 w g gk gb ga ge v n p) (m : Nat) : OnceM w0 (w.drewN m) g gk gb ga ge v n p := h.below (pw_below_drewN (Below.refl _ _) m)
theorem onceI_set (l : List Int) (j : Nat) (x : Int) : (onceI l).setIfInBounds j (.int .i64 x) = onceI (l.set j x) := by
  unfold onceI
  simp [List.map_set]
theorem onceB_set (l : List Bool) (j : Nat) (x : Bool) : (onceB l).setIfInBounds j (.bool x) = onceB (l.set j x) := by
  unfold onceB
  simp [List.map_set]
theorem once_row {w w1 : World} {base gb : Nat} {v : Value} {xs : List Bool} {p : Addr} {u : Value} {t : TypeId} {cs : Array Value} (h : Kd.R Kd.bool 4 w base (fun k => k ≠ gb) v xs) (hp : w.heap[p.block]? = some (.cells cs t (0, 0))) (ht : p.block = gb ∨ t ≠ 4) (e : w1 = w.setCell p u) : Kd.R Kd.bool 4 w1 base (fun k => k ≠ gb) v xs := by
  subst e
  rcases ht with rfl | ht
  · exact Kd.R_far h (fun k hk => hk) u
  · have h2 := Kd.R_types h hp (fun q hq => by simp [Kd.bool, Kd.scalar] at hq; subst hq; exact Ne.symm ht)
    exact Kd.R_mono (Kd.R_far h2 (fun k hk => hk.2) u) (fun k hk => hk.1)
theorem OnceM.ne {w0 w : World} {g gk gb ga ge : Nat} {v : Value} {n : Nat} {p : OnceP} (h : OnceM w0 w g gk gb ga ge v n p) : g ≠ gk ∧ g ≠ gb ∧ g ≠ ga ∧ g ≠ ge ∧ gk ≠ gb ∧ gk ≠ ga ∧ gk ≠ ge ∧ gb ≠ ga ∧ gb ≠ ge ∧ ga ≠ ge := by
  obtain ⟨⟨b1, b2, b3, b4, b5⟩, a2, a3, ⟨xs, h1, h2⟩, a5, a6, a7, a8, a9, a10⟩ := h
  exact ⟨blk_ne b1 b2 (by decide), blk_ne b1 b4 (by decide), blk_ne b1 a2 (by decide), blk_ne b1 a3 (by decide), blk_ne b2 b4 (by decide), blk_ne b2 a2 (by decide), blk_ne b2 a3 (by decide), blk_ne b4 a2 (by decide), blk_ne b4 a3 (by decide), blk_ne a2 a3 (by decide)⟩
theorem OnceM.setE {w0 w : World} {g gk gb ga ge : Nat} {v : Value} {n : Nat} {p : OnceP} (h : OnceM w0 w g gk gb ga ge v n p) (x : Int) : OnceM w0 (w.setCell ⟨g, 0, none⟩ (.int .i64 x)) g gk gb ga ge v n { p with E := x } := by
  obtain ⟨n1, n2, n3, n4, n5, n6, n7, n8, n9, n10⟩ := h.ne
  obtain ⟨⟨b1, b2, b3, b4, b5⟩, a2, a3, ⟨xs, h1, h2⟩, a5, a6, a7, a8, a9, a10⟩ := h
  exact ⟨⟨blk_put b1 0 _ rfl, blk_far b2 (Ne.symm n1) _, b3, blk_far b4 (Ne.symm n2) _, b5⟩, blk_far a2 (Ne.symm n3) _, blk_far a3 (Ne.symm n4) _, ⟨xs, once_row (p := ⟨g, 0, none⟩) h1 b1 (.inr (by decide)) rfl, h2⟩, a5.setCell a6 _, a6, a7, a8, a9, a10⟩
theorem OnceM.setS {w0 w : World} {g gk gb ga ge : Nat} {v : Value} {n : Nat} {p : OnceP} (h : OnceM w0 w g gk gb ga ge v n p) (x : Int) : OnceM w0 (w.setCell ⟨g, 1, none⟩ (.int .i64 x)) g gk gb ga ge v n { p with S := x } := by
  obtain ⟨n1, n2, n3, n4, n5, n6, n7, n8, n9, n10⟩ := h.ne
  obtain ⟨⟨b1, b2, b3, b4, b5⟩, a2, a3, ⟨xs, h1, h2⟩, a5, a6, a7, a8, a9, a10⟩ := h
  exact ⟨⟨blk_put b1 1 _ rfl, blk_far b2 (Ne.symm n1) _, b3, blk_far b4 (Ne.symm n2) _, b5⟩, blk_far a2 (Ne.symm n3) _, blk_far a3 (Ne.symm n4) _, ⟨xs, once_row (p := ⟨g, 1, none⟩) h1 b1 (.inr (by decide)) rfl, h2⟩, a5.setCell a6 _, a6, a7, a8, a9, a10⟩
theorem OnceM.setK {w0 w : World} {g gk gb ga ge : Nat} {v : Value} {n : Nat} {p : OnceP} (h : OnceM w0 w g gk gb ga ge v n p) (j : Nat) (x : Int) : OnceM w0 (w.setCell ⟨gk, j, none⟩ (.int .i64 x)) g gk gb ga ge v n { p with ks := p.ks.set j x } := by
  obtain ⟨n1, n2, n3, n4, n5, n6, n7, n8, n9, n10⟩ := h.ne
  obtain ⟨⟨b1, b2, b3, b4, b5⟩, a2, a3, ⟨xs, h1, h2⟩, a5, a6, a7, a8, a9, a10⟩ := h
  exact ⟨⟨blk_far b1 n1 _, blk_put b2 j _ (onceI_set _ _ _), by rw [← b3]; simp [onceI], blk_far b4 (Ne.symm n5) _, b5⟩, blk_far a2 (Ne.symm n6) _, blk_far a3 (Ne.symm n7) _, ⟨xs, once_row (p := ⟨gk, j, none⟩) h1 b2 (.inr (by decide)) rfl, h2⟩, a5.setCell a7 _, a6, a7, a8, a9, a10⟩
theorem OnceM.setB {w0 w : World} {g gk gb ga ge : Nat} {v : Value} {n : Nat} {p : OnceP} (h : OnceM w0 w g gk gb ga ge v n p) (j : Nat) (x : Bool) : OnceM w0 (w.setCell ⟨gb, j, none⟩ (.bool x)) g gk gb ga ge v n { p with bs := p.bs.set j x } := by
  obtain ⟨n1, n2, n3, n4, n5, n6, n7, n8, n9, n10⟩ := h.ne
  obtain ⟨⟨b1, b2, b3, b4, b5⟩, a2, a3, ⟨xs, h1, h2⟩, a5, a6, a7, a8, a9, a10⟩ := h
  exact ⟨⟨blk_far b1 n2 _, blk_far b2 n5 _, b3, blk_put b4 j _ (onceB_set _ _ _), by rw [← b5]; simp [onceB]⟩, blk_far a2 (Ne.symm n8) _, blk_far a3 (Ne.symm n9) _, ⟨xs, once_row (p := ⟨gb, j, none⟩) h1 b4 (.inl rfl) rfl, h2⟩, a5.setCell a8 _, a6, a7, a8, a9, a10⟩
theorem OnceM.setA {w0 w : World} {g gk gb ga ge : Nat} {v : Value} {n : Nat} {p : OnceP} (h : OnceM w0 w g gk gb ga ge v n p) (j : Nat) (x : Int) : OnceM w0 (w.setCell ⟨ga, j, none⟩ (.int .i64 x)) g gk gb ga ge v n { p with ats := p.ats.set j x } := by
  obtain ⟨n1, n2, n3, n4, n5, n6, n7, n8, n9, n10⟩ := h.ne
  obtain ⟨⟨b1, b2, b3, b4, b5⟩, a2, a3, ⟨xs, h1, h2⟩, a5, a6, a7, a8, a9, a10⟩ := h
  exact ⟨⟨blk_far b1 n3 _, blk_far b2 n6 _, b3, blk_far b4 n8 _, b5⟩, blk_put a2 j _ (onceI_set _ _ _), blk_far a3 (Ne.symm n10) _, ⟨xs, once_row (p := ⟨ga, j, none⟩) h1 a2 (.inr (by decide)) rfl, h2⟩, a5.setCell a9 _, a6, a7, a8, a9, a10⟩
theorem OnceM.setErr {w0 w : World} {g gk gb ga ge : Nat} {v : Value} {n : Nat} {p : OnceP} (h : OnceM w0 w g gk gb ga ge v n p) (c : Int) (s : Bool) : OnceM w0 ((w.setCell ⟨ge, 0, none⟩ (.int .i64 c)).setCell ⟨ge, 1, none⟩ (.bool s)) g gk gb ga ge v n { p with c := c, s := s } := by
  obtain ⟨n1, n2, n3, n4, n5, n6, n7, n8, n9, n10⟩ := h.ne
  obtain ⟨⟨b1, b2, b3, b4, b5⟩, a2, a3, ⟨xs, h1, h2⟩, a5, a6, a7, a8, a9, a10⟩ := h
  have e1 := blk_put a3 0 (.int .i64 c) rfl
  exact ⟨⟨blk_far (blk_far b1 n4 _) n4 _, blk_far (blk_far b2 n7 _) n7 _, b3, blk_far (blk_far b4 n9 _) n9 _, b5⟩, blk_far (blk_far a2 n10 _) n10 _, blk_put e1 1 _ rfl,
    ⟨xs, once_row (p := ⟨ge, 1, none⟩) (once_row (p := ⟨ge, 0, none⟩) h1 a3 (.inr (by decide)) rfl) e1 (.inr (by decide)) rfl, h2⟩, (a5.setCell a10 _).setCell a10 _, a6, a7, a8, a9, a10⟩
theorem OnceInv.begin : OnceInv ⟨0, 0, 0, false, [0, 0, 0, 0], [false, false, false, false], [0, 0, 0, 0]⟩ 0 := by
  refine ⟨by simp, by simp, by simp, by simp, by simp, by simp, by simp, rfl, rfl, rfl, ?_, ?_, ?_⟩ <;> intro j hj <;> (have hj' : j = 0 ∨ j = 1 ∨ j = 2 ∨ j = 3 := by omega) <;> rcases hj' with rfl | rfl | rfl | rfl <;> simp
theorem once_mod (x : Int) : -3 ≤ x.tmod 4 ∧ x.tmod 4 ≤ 3 := by
  rcases Int.le_total 0 x with h | h
  · rw [Int.tmod_eq_emod_of_nonneg h]; omega
  · have h2 : (-x).tmod 4 = (-x) % 4 := Int.tmod_eq_emod_of_nonneg (by omega)
    rw [Int.neg_tmod] at h2
    omega
theorem once_who (x : Int) : ∃ j : Nat, j < 4 ∧ (x.tmod 4 + 4).tmod 4 = (j : Int) := by
  have h := once_mod x
  have h1 : (x.tmod 4 + 4).tmod 4 = (x.tmod 4 + 4) % 4 := Int.tmod_eq_emod_of_nonneg (by omega)
  exact ⟨((x.tmod 4 + 4) % 4).toNat, by omega, by omega⟩
theorem once_get (l : List Int) (j k : Nat) (x : Int) (hj : j < l.length) : (l.set j x).getD k 0 = if j = k then x else l.getD k 0 := by
  rw [List.getD_eq_getElem?_getD, List.getElem?_set]
  by_cases e : j = k
  · subst e; simp [hj]
  · simp [e, List.getD_eq_getElem?_getD]
theorem once_valid {p : OnceP} {n : Nat} (h : OnceInv p n) (hn : n ≤ 100) : errseq_Valid.f p.c p.s = some true := by
  have h1 := h.c0; have h2 := h.cn; have h3 := h.val
  unfold errseq_Valid.f
  rw [if_pos h1, if_pos (by omega)]
  cases hs : p.s
  · simp
  · have h4 : p.c > 0 := by rcases h3 with h3 | h3; · exact h3
                            · rw [hs] at h3; cases h3
    have h5 : (p.c == 0) = false := by (first | (dsimp only; omega) | (simp; omega))
    simp [h5]
theorem once_fresh (p : OnceP) : errseq_fresh.f p.c p.s = some (decide (p.c > 0 ∧ p.s = false)) := by
  unfold errseq_fresh.f
  by_cases c : p.c > 0
  · rw [if_pos c]; cases p.s <;> simp [c]
  · rw [if_neg c]; simp [c]
theorem once_set {p : OnceP} {n : Nat} (h : OnceInv p n) (hn : n ≤ 60) : errseq_Set.f p.c p.s = some (if p.c > 0 ∧ p.s = false then p.c else p.c + 1, false, 0) := by
  have h1 := h.c0; have h2 := h.cn
  unfold errseq_Set.f
  rw [once_valid h (by omega), once_fresh]
  simp only [Option.bind_some, if_true]
  by_cases c : p.c > 0 ∧ p.s = false
  · rw [if_pos (decide_eq_true c), if_pos c, c.2]
  · rw [if_neg (by simpa using c), if_neg (by omega), if_neg c]
    have : wrap64 (p.c + 1) = p.c + 1 := by unfold wrap64; omega
    rw [this]
theorem once_sample {p : OnceP} {n : Nat} (h : OnceInv p n) (hn : n ≤ 60) : errseq_Sample.f p.c p.s = some (if p.c > 0 ∧ p.s = false then p.c - 1 else p.c, 0) := by
  have h1 := h.c0; have h2 := h.cn
  unfold errseq_Sample.f
  rw [once_valid h (by omega), once_fresh]
  simp only [Option.bind_some, if_true]
  by_cases c : p.c > 0 ∧ p.s = false
  · rw [if_pos (decide_eq_true c), if_pos c]
    have : wrap64 (p.c - 1) = p.c - 1 := by unfold wrap64; omega
    rw [this]
  · rw [if_neg (by simpa using c), if_neg c]
theorem once_set_inv {p : OnceP} {n : Nat} (h : OnceInv p n) : OnceInv { p with E := p.E + 1, c := if p.c > 0 ∧ p.s = false then p.c else p.c + 1, s := false } (n + 1) := by
  obtain ⟨a1, a2, a3, a4, a5, a6, a7, a8, a9, b1, b2, b3, b4⟩ := h
  by_cases c : p.c > 0 ∧ p.s = false
  · have hf := a7.1 c
    refine ⟨a1, by (first | (dsimp only; omega) | (simp; omega)), by (first | (dsimp only; omega) | (simp; omega)), by simp [c]; omega, by simp [c]; omega, by simp [c], by simp [c]; omega, a8, a9, b1, b2, by simpa [c] using b3, fun j hj => ?_⟩
    have h1 := b2 j hj
    have h2 := (b4 j hj).2 (by omega)
    simp only [c, and_self, if_true]
    omega
  · have hf : p.S = p.E := by
      have hnf : ¬ p.S < p.E := fun h => c (a7.2 h)
      omega
    refine ⟨a1, by (first | (dsimp only; omega) | (simp; omega)), by (first | (dsimp only; omega) | (simp; omega)), by simp [c]; omega, by simp [c]; omega, by simp [c], by simp [c]; omega, a8, a9, b1, b2, fun j hj => ?_, fun j hj => ?_⟩
    · have h1 := b3 j hj
      simp only [c, if_false]
      omega
    · have h1 := b2 j hj
      have h2 := b3 j hj
      simp only [c, if_false]
      omega
theorem once_begin_inv {p : OnceP} {n : Nat} (h : OnceInv p n) (j : Nat) (hj : j < 4) : OnceInv { p with ats := p.ats.set j (if p.c > 0 ∧ p.s = false then p.c - 1 else p.c), bs := p.bs.set j true, ks := p.ks.set j p.S } (n + 1) := by
  obtain ⟨a1, a2, a3, a4, a5, a6, a7, a8, a9, b1, b2, b3, b4⟩ := h
  refine ⟨a1, a2, by (first | (dsimp only; omega) | (simp; omega)), a4, by (first | (dsimp only; omega) | (simp; omega)), a6, a7, by simpa using a8, by simpa using a9, by simpa using b1, fun k hk => ?_, fun k hk => ?_, fun k hk => ?_⟩
  · rw [once_get _ _ _ _ (by omega)]
    have := b2 k hk
    by_cases e : j = k
    · rw [if_pos e]; (first | (dsimp only; omega) | (simp; omega))
    · rw [if_neg e]; simpa using this
  · rw [once_get _ _ _ _ (by omega)]
    have := b3 k hk
    by_cases e : j = k
    · rw [if_pos e]
      by_cases c : p.c > 0 ∧ p.s = false
      · rw [if_pos c]; (first | (dsimp only; omega) | (simp; omega))
      · rw [if_neg c]; (first | (dsimp only; omega) | (simp; omega))
    · rw [if_neg e]; simpa using this
  · rw [once_get _ _ _ _ (by omega), once_get _ _ _ _ (by omega)]
    have := b4 k hk
    by_cases e : j = k
    · rw [if_pos e, if_pos e]
      by_cases c : p.c > 0 ∧ p.s = false
      · have := a7.1 c
        rw [if_pos c]; (first | (dsimp only; omega) | (simp; omega))
      · have hnf : ¬ p.S < p.E := fun h => c (a7.2 h)
        rw [if_neg c]; (first | (dsimp only; omega) | (simp; omega))
    · rw [if_neg e, if_neg e]; simpa using this
theorem once_check {p : OnceP} {n : Nat} (h : OnceInv p n) (hn : n ≤ 60) (j : Nat) (hj : j < 4) : ∃ k, errseq_Check.f k p.c p.s (p.ats.getD j 0) = some (if p.ats.getD j 0 < p.c then (p.c, true, p.c, 15) else (p.c, p.s, p.ats.getD j 0, 0)) := by
  have h1 := h.c0; have h2 := h.cn; have h3 := h.a0 j hj
  refine ⟨5, ?_⟩
  unfold errseq_Check.f
  rw [once_valid h (by omega)]
  simp only [Option.bind_some, if_true]
  rw [if_neg (by omega), decide_eq_false (by omega : ¬ p.ats.getD j 0 > p.c)]
  simp only [errseq_Check.j0, Bool.false_eq_true, if_false]
  by_cases c : p.ats.getD j 0 < p.c
  · rw [if_neg (by omega), if_pos c]
  · rw [if_pos (by omega), if_neg c]
theorem once_told_inv {p : OnceP} {n : Nat} (h : OnceInv p n) (j : Nat) (hj : j < 4) (c : p.ats.getD j 0 < p.c) : OnceInv { p with S := p.E, ks := p.ks.set j p.E, s := true, ats := p.ats.set j p.c } (n + 1) := by
  obtain ⟨a1, a2, a3, a4, a5, a6, a7, a8, a9, b1, b2, b3, b4⟩ := h
  have h0 := b3 j hj
  refine ⟨by (first | (dsimp only; omega) | (simp; omega)), by simp, by (first | (dsimp only; omega) | (simp; omega)), a4, by (first | (dsimp only; omega) | (simp; omega)), .inl (by (first | (dsimp only; omega) | (simp; omega))), by simp, by simpa using a8, a9, by simpa using b1, fun k hk => ?_, fun k hk => ?_, fun k hk => ?_⟩
  · rw [once_get _ _ _ _ (by omega)]
    have := b2 k hk
    by_cases e : j = k
    · rw [if_pos e]; (first | (dsimp only; omega) | (simp; omega))
    · rw [if_neg e]; (first | (dsimp only; omega) | (simp; omega))
  · rw [once_get _ _ _ _ (by omega)]
    have := b3 k hk
    by_cases e : j = k
    · rw [if_pos e]; (first | (dsimp only; omega) | (simp; omega))
    · rw [if_neg e]; (first | (dsimp only; omega) | (simp; omega))
  · rw [once_get _ _ _ _ (by omega), once_get _ _ _ _ (by omega)]
    have := b4 k hk
    by_cases e : j = k
    · rw [if_pos e, if_pos e]; simp
    · rw [if_neg e, if_neg e]; simpa using this
theorem once_same_inv {p : OnceP} {n : Nat} (h : OnceInv p n) (j : Nat) (hj : j < 4) (c : ¬ p.ats.getD j 0 < p.c) : OnceInv { p with ks := p.ks.set j p.E, ats := p.ats.set j (p.ats.getD j 0) } (n + 1) := by
  obtain ⟨a1, a2, a3, a4, a5, a6, a7, a8, a9, b1, b2, b3, b4⟩ := h
  have h0 := b3 j hj
  have h1 := b2 j hj
  have h2 : ¬ p.ks.getD j 0 < p.E := fun h => c ((b4 j hj).2 h)
  refine ⟨a1, a2, by (first | (dsimp only; omega) | (simp; omega)), a4, by (first | (dsimp only; omega) | (simp; omega)), a6, a7, by simpa using a8, a9, by simpa using b1, fun k hk => ?_, fun k hk => ?_, fun k hk => ?_⟩
  · rw [once_get _ _ _ _ (by omega)]
    have := b2 k hk
    by_cases e : j = k
    · rw [if_pos e]; (first | (dsimp only; omega) | (simp; omega))
    · rw [if_neg e]; simpa using this
  · rw [once_get _ _ _ _ (by omega)]
    have := b3 k hk
    by_cases e : j = k
    · rw [if_pos e]; (first | (dsimp only; omega) | (simp; omega))
    · rw [if_neg e]; simpa using this
  · rw [once_get _ _ _ _ (by omega), once_get _ _ _ _ (by omega)]
    have := b4 k hk
    by_cases e : j = k
    · rw [if_pos e, if_pos e]; (first | (dsimp only; omega) | (simp; omega))
    · rw [if_neg e, if_neg e]; simpa using this
theorem once_next_inv {p : OnceP} {n : Nat} (h : OnceInv p n) : OnceInv p (n + 1) := by
  obtain ⟨a1, a2, a3, a4, a5, a6, a7, a8, a9, b1, b2, b3, b4⟩ := h
  exact ⟨a1, a2, by omega, a4, by omega, a6, a7, a8, a9, b1, b2, b3, b4⟩
theorem once_append {ops : Array Oper} {rest : List Oper} {o : Oper} {a : Act} {Q : Exit → Act → World → Prop} {w0 W : World} {g gk gb ga ge : Nat} {v : Value} {n : Nat} {p : OnceP} (M : OnceM w0 W g gk gb ga ge v n p) (hn : n ≤ 60)
    (hgd : o.guard = none) (s x : Operand) (ho : o.op = .call { callee := .builtin .append, args := #[s, x], argTypes := #[35, 35] }) (b : Bool) (hs : a.eval s = v) (hx : a.eval x = .slice (some ⟨W.heap.size, 0, none⟩) 1 1)
    (h : ∀ v1 w1, OnceM w0 w1 g gk gb ga ge v1 (n + 1) p → wpList Try.prog ops Q rest (a.put o.dst v1) w1) : wpList Try.prog ops Q (o :: rest) a (W.alloc (.cells #[.bool b] 4)) := by
  obtain ⟨⟨b1, b2, b3, b4, b5⟩, a2, a3, ⟨xs, h1, h2⟩, a5, a6, a7, a8, a9, a10⟩ := M
  refine Kd.R_append (P := Try.prog) Kd.bool (w0 := w0) w0.heap.size hgd s x 35 4 (.bool false) 1 ho Try.underlying35 (by kernel_rfl) rfl (by decide) (by decide) v xs b [.bool b] (fun k => k ≠ gb) (fun _ => False) hs hx rfl (fun _ hk => hk.elim) (fun k hk => ?_) h1 a5 a5.size (by omega) ?_
  · have := blk_lt b4; omega
  · intro v1 w1 hR hB hg hat
    have ne : ∀ {q : Nat} {t : TypeId} {cs : Array Value}, W.heap[q]? = some (.cells cs t (0, 0)) → t ≠ 4 → w1.heap[q]? = some (.cells cs t (0, 0)) := fun hq ht => blk_grown hq hg (Kd.R_ne h1 hq (Ne.symm ht))
    have nb : w1.heap[gb]? = some (.cells (onceB p.bs) 4 (0, 0)) := blk_grown b4 hg (fun e => h1.1 gb e.symm rfl)
    exact h v1 w1 ⟨⟨ne b1 (by decide), ne b2 (by decide), b3, nb, b5⟩, ne a2 (by decide), ne a3 (by decide), ⟨_, hR, by simp; omega⟩, hB, a6, a7, a8, a9, a10⟩
def OnceSS (wr : World) (ge ga j : Nat) (c : Int) (s : Bool) (at9 : Int) (w' : World) : Prop := w'.cell? ⟨ge, 0, none⟩ = some (.int .i64 c) ∧ w'.cell? ⟨ge, 1, none⟩ = some (.bool s) ∧ w'.cell? ⟨ga, j, none⟩ = some (.int .i64 at9) ∧ Below wr.heap.size wr w'
theorem once_drew {B : Nat} {w W : World} (h : Below B w W) : Below B w W.drew := ⟨h.os, h.tape, h.output, h.size, h.block⟩
theorem OnceSS.of {wr : World} {ge ga j : Nat} {c : Int} {s : Bool} {at9 : Int} {w' : World} (h0 : wr.cell? ⟨ge, 0, none⟩ = some (.int .i64 c)) (h1 : wr.cell? ⟨ge, 1, none⟩ = some (.bool s)) (h2 : wr.cell? ⟨ga, j, none⟩ = some (.int .i64 at9)) (hb : Below wr.heap.size wr w') : OnceSS wr ge ga j c s at9 w' :=
  ⟨pw_cell_below hb h0, pw_cell_below hb h1, pw_cell_below hb h2, hb⟩
theorem once_Ask_yes (g gk gb : Nat) (E S K : Int) (kc bc : Array Value) (i : Nat) (hi : i < 4) (hK : kc[i]? = some (.int .i64 K)) (c : K < E) (w : World) (H : OnceW w g gk gb E S kc bc) :
    Calls Try.prog 24 #[.pointer (some ⟨g, 0, none⟩), .int .i64 (i : Int)] w fun e w' => e = .returned (.bool true) ∧ ∃ n, w' = (((w.setCell ⟨g, 1, none⟩ (.int .i64 E))).setCell ⟨gk, i, none⟩ (.int .i64 E)).drewN n :=
  (once_Ask g gk gb E S K kc bc i hi hK w H).mono fun e w' h => by rw [decide_eq_true c, if_pos c] at h; exact h
theorem once_Ask_no (g gk gb : Nat) (E S K : Int) (kc bc : Array Value) (i : Nat) (hi : i < 4) (hK : kc[i]? = some (.int .i64 K)) (c : ¬ K < E) (w : World) (H : OnceW w g gk gb E S kc bc) :
    Calls Try.prog 24 #[.pointer (some ⟨g, 0, none⟩), .int .i64 (i : Int)] w fun e w' => e = .returned (.bool false) ∧ ∃ n, w' = (w.setCell ⟨gk, i, none⟩ (.int .i64 E)).drewN n :=
  (once_Ask g gk gb E S K kc bc i hi hK w H).mono fun e w' h => by rw [decide_eq_false c, if_neg c] at h; exact h
theorem OnceM.apart {w0 w : World} {g gk gb ga ge : Nat} {v : Value} {n : Nat} {p : OnceP} (h : OnceM w0 w g gk gb ga ge v n p) {gn : Nat} {c : Int} {s : Bool} (hn : w.heap[gn]? = some (.cells #[.int .i64 c, .bool s] 23 (0, 0))) : gn ≠ g ∧ gn ≠ gk ∧ gn ≠ ga :=
  ⟨blk_ne hn h.hW.hg (by decide), blk_ne hn h.hW.hk (by decide), blk_ne hn h.hA (by decide)⟩
/-- What is known of the values of the region that asks. -/
def OncePhi (ge ga j B : Nat) (c : Int) (s : Bool) (at9 : Int) (s1 : Bool) (n1 e1 : Int) : Nat → Value → World → Prop
  | 0, v, _ => v = .agg #[.int .i64 c, .bool s]
  | 1, v, _ => v = .int .i64 (j : Int)
  | 2, v, _ => v = .pointer (some ⟨ga, j, none⟩)
  | 3, v, _ => v = .int .i64 at9
  | 4, v, _ => v = .tuple #[.agg #[.int .i64 c, .bool s1], .int .i64 n1, .int .i64 e1]
  | 5, v, _ => v = .tuple #[.agg #[.int .i64 c, .bool s1], .int .i64 n1, .int .i64 e1]
  | 6, v, _ => v = .agg #[.int .i64 c, .bool s1]
  | 7, v, _ => v = .int .i64 n1
  | 8, v, _ => v = .int .i64 e1
  | 9, v, w => ∃ gn, v = .pointer (some ⟨gn, 0, none⟩) ∧ w.heap[gn]? = some (.cells #[.int .i64 0, .bool false] 23 (0, 0)) ∧ B ≤ gn
  | _, _, _ => True
theorem OncePhi.stable (ge ga j B : Nat) (c : Int) (s : Bool) (at9 : Int) (s1 : Bool) (n1 e1 : Int) : ∀ i v w w', Below w.heap.size w w' → OncePhi ge ga j B c s at9 s1 n1 e1 i v w → OncePhi ge ga j B c s at9 s1 n1 e1 i v w'
  | 9, v, w, w', hb, h => by
    obtain ⟨gn, h1, h2, h3⟩ := h
    exact ⟨gn, h1, blk_below h2 hb, h3⟩
  | 0, _, _, _, _, h => h
  | 1, _, _, _, _, h => h
  | 2, _, _, _, _, h => h
  | 3, _, _, _, _, h => h
  | 4, _, _, _, _, h => h
  | 5, _, _, _, _, h => h
  | 6, _, _, _, _, h => h
  | 7, _, _, _, _, h => h
  | 8, _, _, _, _, h => h
  | n + 10, _, _, _, _, h => h
/-- What play leaves. -/
def OnceEnd (w : World) (r : Bool) (e : Ending) (w' : World) : Prop := ∃ v, e = .returned (.tuple #[v, .bool r]) ∧ Below w.heap.size w w'
def estoverslaw29_play.f (l0 : List S43) : Option Bool := if l0.length ≤ 60 then some true else none
set_option maxHeartbeats 16000000 in
set_option maxRecDepth 1000000 in
theorem estoverslaw29_play.calls (A0 : Option Addr) (c0 : Nat) (l0 : List S43) (r : Bool) (w : World) (hr : Kd.C k43 w A0 l0.length l0) (hc : l0.length ≤ c0) (h : estoverslaw29_play.f l0 = some r) :
    Calls Try.prog 19 #[.slice A0 l0.length c0] w (OnceEnd w r) := by
  unfold estoverslaw29_play.f at h
  by_cases hl : l0.length ≤ 60
  case neg => rw [if_neg hl] at h; cases h
  rw [if_pos hl] at h
  obtain rfl : true = r := by injection h
  clear h
  have HR := Aside0.mk hr; have HC := Aside0.mk hc
  clear hr hc
  go_enter Try.func19, Try.ntmps19
  go_upto_region 6 with (first
    | (go_at_call 21; (with_reducible refine (once_Start _).mono ?_); rintro e1 w1 ⟨g, gk, gb, rfl, hb, hg, hgk, hgb, HW⟩; have B1 := Aside0.mk hb; have W1 := Aside0.mk HW; have G1 := Aside0.mk (And.intro hg (And.intro hgk hgb)); clear hb HW hg hgk hgb)
    | (go_at_call 11; (with_reducible refine (errseq_New.calls 0 false _ rfl).mono ?_); rintro e2 w2 ⟨rfl, hb⟩; have B2 := Aside0.mk hb; clear hb))
  have M0 : Aside0 (OnceM w (w2.alloc (.cells #[.int .i64 0, .bool false] 23)) g gk gb w1.heap.size w2.heap.size (.slice none 0 0) 0 ⟨0, 0, 0, false, [0, 0, 0, 0], [false, false, false, false], [0, 0, 0, 0]⟩) := Aside0.mk (by
    obtain ⟨hg, hgk, hgb⟩ := G1.out
    have b1 := below_alloc (Below.refl w1.heap.size w1) (.cells #[.int .i64 0, .int .i64 0, .int .i64 0, .int .i64 0] 41)
    have b2 := below_step b1 B2.out
    have b3 := below_alloc b2 (.cells #[.int .i64 0, .bool false] 23)
    have b4 := below_step B1.out b3
    obtain ⟨c1, c2, c3, c4, c5⟩ := W1.out
    have z1 := B1.out.size
    have z2 := b2.size
    exact ⟨⟨blk_below c1 b3, blk_below c2 b3, c3, blk_below c4 b3, c5⟩, blk_alloc (blk_below (blk_new w1 _) B2.out) _, blk_new w2 _, ⟨[], Kd.R_nil _ _ _ _ _, Nat.le_refl _⟩, b4, hg, hgk, hgb, z1, Nat.le_trans z1 z2⟩)
  clear B1 B2 W1 G1
  generalize w2.alloc (.cells #[.int .i64 0, .bool false] 23) = w3 at *
  generalize w1.heap.size = ga at *
  generalize w2.heap.size = ge at *
  go_loopg [7, 8] l0.length (fun kx v s8 wr => ∃ i : Nat, s8 = .int .i64 (i : Int) ∧ i + kx = l0.length ∧ ∃ p, Aside0 (OnceM w wr g gk gb ga ge v i p) ∧ Aside0 (OnceInv p i))
  case atStart => exact ⟨0, rfl, by omega, _, M0, ⟨OnceInv.begin⟩⟩
  case round =>
    clear M0
    obtain ⟨i, rfl, hik, p, HM, HI⟩ := hrel
    cases gk with
    | zero =>
      have hge : ¬ (i : Int) < (l0.length : Int) := by omega
      go_wp2
      exact bodyPost_ret (results_tmp2 rfl _ _ _) rfl ⟨_, rfl, HM.out.hB⟩
    | succ kx =>
      have hlt : (i : Int) < (l0.length : Int) := by omega
      have hi9 : (i : Int) + 1 ≤ 9223372036854775807 := by omega
      obtain ⟨ad, rfl, e0, e1⟩ := at_T43 (Kd.C_below HR.out HM.out.hB) (i : Int) (by omega) hlt
      have hnat : ((i : Int)).toNat = i := by omega
      rw [hnat] at e0 e1
      obtain ⟨t1, t2⟩ := once_mod (rd_T43 l0 (i : Int)).f1
      obtain ⟨j, hj, hjw⟩ := once_who (rd_T43 l0 (i : Int)).f1
      clear hnat
      generalize (rd_T43 l0 (i : Int)).f1 = who at *
      generalize (rd_T43 l0 (i : Int)).f0 = kind at *
      have hjw2 : (who.tmod 4 + 4) % 4 = (j : Int) := by rw [← hjw]; exact (Int.tmod_eq_emod_of_nonneg (by omega)).symm
      have HJ := Aside0.mk hjw2
      clear hjw hjw2
      go_upto_region 9 with (fail)
      rw [HJ.out]
      clear HJ t1 t2 e1
      by_cases k0 : kind = 0
      · subst k0
        obtain ⟨c1, hs, hinv⟩ : ∃ c1, errseq_Set.f p.c p.s = some (c1, false, 0) ∧ OnceInv { p with E := p.E + 1, c := c1, s := false } (i + 1) := ⟨_, once_set HI.out (by omega), once_set_inv HI.out⟩
        have HS := Aside0.mk hs; have HN := Aside0.mk hinv
        clear hs hinv
        have ce0 := (blk_cell HM.out.hE 0).trans (rfl : _ = some (Value.int .i64 p.c))
        have ce1 := (blk_cell HM.out.hE 1).trans (rfl : _ = some (Value.bool p.s))
        go_upto_region 14 with (first
          | (go_at_call 13; (with_reducible refine (errseq_Set.calls p.c p.s _ _ _ _ HS.out).mono ?_); rintro e4 w4 ⟨rfl, hb⟩; have B4 := Aside0.mk hb; clear hb))
        have M5 := Aside0.mk (HM.out.below (below_alloc B4.out (.cells #[.int .i64 c1, .bool false] 23)))
        have n0 := (blk_cell (blk_new w4 (.cells #[.int .i64 c1, .bool false] 23)) 0).trans (rfl : _ = some (Value.int .i64 c1))
        have n1 := (blk_cell (blk_new w4 (.cells #[.int .i64 c1, .bool false] 23)) 1).trans (rfl : _ = some (Value.bool false))
        clear HM ce0 ce1 B4 HS
        generalize w4.alloc (.cells #[.int .i64 c1, .bool false] 23) = w5 at *
        generalize w4.heap.size = gn at *
        have ce0 := (blk_cell M5.out.hE 0).trans (rfl : _ = some (Value.int .i64 p.c))
        have ce1 := (blk_cell M5.out.hE 1).trans (rfl : _ = some (Value.bool p.s))
        have z0 := blk_frozen M5.out.hE 0
        have z1 := blk_frozen M5.out.hE 1
        go_upto_region 15 with (fail)
        have M6 := Aside0.mk (M5.out.setErr c1 false)
        clear M5 ce0 ce1 z0 z1 n0 n1
        generalize (w5.setCell ⟨ge, 0, none⟩ (.int .i64 c1)).setCell ⟨ge, 1, none⟩ (.bool false) = w6 at *
        have E0 := Aside0.mk (And.intro (Int.le_trans HI.out.S0 HI.out.SE) (show p.E < 1000 from by have := HI.out.En; omega))
        go_upto_region 29 with (first
          | (go_at_call 22; (with_reducible refine (once_Fail g gk gb p.E p.S _ _ E0.out.1 E0.out.2 _ M6.out.hW).mono ?_); rintro e7 w7 ⟨rfl, n7, rfl⟩))
        have M8 := Aside0.mk (((M6.out.setE (p.E + 1)).drewN n7).more)
        clear M6
        generalize (w6.setCell ⟨g, 0, none⟩ (.int .i64 (p.E + 1))).drewN n7 = w8 at *
        have ce0 := (blk_cell M8.out.hE 0).trans (rfl : _ = some (Value.int .i64 _))
        have ce1 := (blk_cell M8.out.hE 1).trans (rfl : _ = some (Value.bool _))
        go_wp2_with (first
          | (go_at_call 9; (with_reducible refine (errseq_Valid.calls _ _ true _ (once_valid HN.out (by omega))).mono ?_); rintro e9 w9 ⟨rfl, hb⟩; have B9 := Aside0.mk hb; clear hb))
        go_roundg kx
        case measure => omega
        case rel => exact ⟨i + 1, by simp, by omega, _, ⟨(M8.out.below B9.out)⟩, HN⟩
      by_cases k1 : kind = 1
      · subst k1
        obtain ⟨c1, hs, hinv⟩ : ∃ c1, errseq_Sample.f p.c p.s = some (c1, 0) ∧ OnceInv { p with ats := p.ats.set j c1, bs := p.bs.set j true, ks := p.ks.set j p.S } (i + 1) := ⟨_, once_sample HI.out (by omega), once_begin_inv HI.out j hj⟩
        have HS := Aside0.mk hs; have HN := Aside0.mk hinv
        clear hs hinv
        have ce0 := (blk_cell HM.out.hE 0).trans (rfl : _ = some (Value.int .i64 p.c))
        have ce1 := (blk_cell HM.out.hE 1).trans (rfl : _ = some (Value.bool p.s))
        go_upto_region 20 with (first
          | (go_at_call 15; (with_reducible refine (errseq_Sample.calls p.c p.s _ _ _ HS.out).mono ?_); rintro e4 w4 ⟨rfl, hb⟩; have B4 := Aside0.mk hb; clear hb))
        have M5 := Aside0.mk (HM.out.below B4.out)
        clear HM ce0 ce1 B4 HS
        obtain ⟨a9, ha9⟩ : ∃ a9, (onceI p.ats)[j]? = some a9 := ⟨_, Array.getElem?_eq_getElem (by have := HI.out.la; simp [onceI]; omega)⟩
        have ca := (blk_cell M5.out.hA j).trans ha9
        have za := blk_frozen M5.out.hA j
        go_upto_region 21 with (fail)
        have M6 := Aside0.mk (M5.out.setA j c1)
        clear M5 ca za ha9
        generalize w4.setCell ⟨ga, j, none⟩ (.int .i64 c1) = w6 at *
        go_upto_region 29 with (first
          | (go_at_call 23; (with_reducible refine (once_Begin g gk gb p.E p.S _ _ j hj _ M6.out.hW).mono ?_); rintro e7 w7 ⟨rfl, n7, rfl⟩))
        have M8 := Aside0.mk ((((M6.out.setB j true).setK j p.S).drewN n7).more)
        clear M6
        generalize (((w6.setCell ⟨gb, j, none⟩ (.bool true)).setCell ⟨gk, j, none⟩ (.int .i64 p.S))).drewN n7 = w8 at *
        have ce0 := (blk_cell M8.out.hE 0).trans (rfl : _ = some (Value.int .i64 _))
        have ce1 := (blk_cell M8.out.hE 1).trans (rfl : _ = some (Value.bool _))
        go_wp2_with (first
          | (go_at_call 9; (with_reducible refine (errseq_Valid.calls _ _ true _ (once_valid HN.out (by omega))).mono ?_); rintro e9 w9 ⟨rfl, hb⟩; have B9 := Aside0.mk hb; clear hb))
        go_roundg kx
        case measure => omega
        case rel => exact ⟨i + 1, by simp, by omega, _, ⟨(M8.out.below B9.out)⟩, HN⟩
      by_cases k2 : kind = 2
      · subst k2
        obtain ⟨b9, hb9⟩ : ∃ b9, (onceB p.bs)[j]? = some (.bool b9) := ⟨p.bs[j]'(by have := HI.out.lb; omega), by simp [onceB, List.getElem?_eq_getElem (show j < p.bs.length by have := HI.out.lb; omega)]⟩
        have cg := (blk_cell HM.out.hW.hg 3).trans (rfl : _ = some (Value.slice (some ⟨gb, 0, none⟩) 4 4))
        have cb := (blk_cell HM.out.hW.hb j).trans hb9
        clear hb9
        cases b9
        case false =>
          go_wp2
          go_roundg kx
          case measure => omega
          case rel => exact ⟨i + 1, by simp, by omega, _, ⟨HM.out.more⟩, ⟨once_next_inv HI.out⟩⟩
        case true =>
        go_upto_region 24 with (fail)
        clear cg cb
        have ce0 := (blk_cell HM.out.hE 0).trans (rfl : _ = some (Value.int .i64 p.c))
        have ce1 := (blk_cell HM.out.hE 1).trans (rfl : _ = some (Value.bool p.s))
        have ca := (blk_cell HM.out.hA j).trans (show _ = some (Value.int .i64 (p.ats.getD j 0)) from by have h9 := HI.out.la; simp [onceI, List.getElem?_eq_getElem (show j < p.ats.length by omega), List.getD_eq_getElem?_getD])
        generalize hat : p.ats.getD j 0 = at9 at *
        have HAT := Aside0.mk hat
        clear hat
        by_cases ct : at9 < p.c
        · obtain ⟨kk, hs⟩ := once_check HI.out (by omega) j hj
          rw [HAT.out, if_pos ct] at hs
          have HS := Aside0.mk hs
          clear hs
          refine Stab.region_stable (by kernel_rfl) [0, 1, 2, 3, 4, 5, 6, 7, 8, 9] [10, 11, 12] [7, 8] _ _ (OncePhi ge ga j wr.heap.size p.c p.s at9 true p.c 15) (by kernel_rfl) (by simp [Stab.dstsOf, Stab.dstAt]) (OncePhi.stable ge ga j wr.heap.size p.c p.s at9 true p.c 15) ?_ (fun _ _ d _ _ h => by cases d <;> exact h) ?_ ?_
          · intro i9 hi9 o ho
            simp only [List.mem_cons, List.not_mem_nil, or_false] at hi9
            rcases hi9 with rfl | rfl | rfl | rfl | rfl | rfl | rfl | rfl | rfl | rfl
            all_goals (obtain rfl := Option.some.inj ho; clear ho; intro a9 w9 hb9 hf9 hn9 K9 hK9; rw [if_pos (by rfl)])
            · have v6 := (hf9 6 (by decide)).trans (rfl : _ = some (Value.pointer (some ⟨ge, 0, none⟩)))
              have d0 := pw_cell_below hb9 (show wr.drew.cell? _ = _ from ce0)
              have d1 := pw_cell_below hb9 (show wr.drew.cell? _ = _ from ce1)
              go_simp
              exact hK9 _ _ (Below.refl _ _) rfl
            · have v9 := (hf9 9 (by decide)).trans (rfl : _ = some (Value.int .i64 (j : Int)))
              go_simp
              exact hK9 _ _ (Below.refl _ _) rfl
            · have v5 := (hf9 5 (by decide)).trans (rfl : _ = some (Value.pointer (some ⟨ga, 0, none⟩)))
              obtain ⟨_, v77, rfl⟩ := hn9 1 _ 77 (by decide) rfl rfl
              have hj0 : (0 : Int) ≤ (j : Int) := by omega
              have hj4 : (j : Int) < 4 := by omega
              go_simp
              exact hK9 _ _ (Below.refl _ _) rfl
            · obtain ⟨_, v78, rfl⟩ := hn9 2 _ 78 (by decide) rfl rfl
              have d0 := pw_cell_below hb9 (show wr.drew.cell? _ = _ from ca)
              go_simp
              exact hK9 _ _ (Below.refl _ _) rfl
            · obtain ⟨_, v76, rfl⟩ := hn9 0 _ 76 (by decide) rfl rfl
              obtain ⟨_, v79, rfl⟩ := hn9 3 _ 79 (by decide) rfl rfl
              go_simp
              refine (errseq_Check.calls kk p.c p.s at9 _ _ _ _ _ HS.out).mono ?_
              rintro e4 w4 ⟨rfl, hb⟩
              exact hK9 _ _ hb rfl
            · obtain ⟨_, v80, rfl⟩ := hn9 4 _ 80 (by decide) rfl rfl
              go_simp
              exact hK9 _ _ (Below.refl _ _) rfl
            · obtain ⟨_, v75, rfl⟩ := hn9 5 _ 75 (by decide) rfl rfl
              go_simp
              exact hK9 _ _ (Below.refl _ _) rfl
            · obtain ⟨_, v75, rfl⟩ := hn9 5 _ 75 (by decide) rfl rfl
              go_simp
              exact hK9 _ _ (Below.refl _ _) rfl
            · obtain ⟨_, v75, rfl⟩ := hn9 5 _ 75 (by decide) rfl rfl
              go_simp
              exact hK9 _ _ (Below.refl _ _) rfl
            · go_simp
              exact hK9 _ _ (below_alloc (Below.refl _ _) _) ⟨w9.heap.size, rfl, blk_new _ _, hb9.size⟩
          · intro i9 hi9 o ho
            simp only [List.mem_cons, List.not_mem_nil, or_false] at hi9
            rcases hi9 with rfl | rfl
            all_goals (obtain rfl := Option.some.inj ho; clear ho; intro a9 w9 hb9 hf9 hn9; obtain ⟨_, v75, rfl⟩ := hn9 5 _ 75 (by decide) rfl rfl; refine ⟨_, .inl ⟨rfl, fun w => ?_⟩, rfl⟩; go_simp)
          · intro vs w9 hb9 hvs
            have x0 : vs 76 = _ := hvs 0 (by decide) 76 rfl
            have x1 : vs 77 = _ := hvs 1 (by decide) 77 rfl
            have x2 : vs 78 = _ := hvs 2 (by decide) 78 rfl
            have x3 : vs 79 = _ := hvs 3 (by decide) 79 rfl
            have x4 : vs 80 = _ := hvs 4 (by decide) 80 rfl
            have x5 : vs 75 = _ := hvs 5 (by decide) 75 rfl
            have x6 : vs 81 = _ := hvs 6 (by decide) 81 rfl
            have x7 : vs 82 = _ := hvs 7 (by decide) 82 rfl
            have x8 : vs 83 = _ := hvs 8 (by decide) 83 rfl
            obtain ⟨gn, x9, hgn, hge⟩ := hvs 9 (by decide) 14 rfl
            simp only [Stab.dstsOf, Stab.dstAt, List.filterMap_cons, List.filterMap_nil, List.map_cons, List.map_nil, Stab.putL, x0, x1, x2, x3, x4, x5, x6, x7, x8, x9, List.getElem?_toArray, List.getElem?_cons_zero, List.getElem?_cons_succ, Option.bind_some, Act.put, List.setIfInBounds_toArray, List.set_cons_zero, List.set_cons_succ]
            clear x0 x1 x2 x3 x4 x5 x6 x7 x8 x9 hvs ce0 ce1 ca
            have zn0 := blk_frozen hgn 0
            have zn1 := blk_frozen hgn 1
            have dn0 := (blk_cell hgn 0).trans (rfl : _ = some (Value.int .i64 0))
            have dn1 := (blk_cell hgn 1).trans (rfl : _ = some (Value.bool false))
            have HGN := Aside0.mk hgn
            have HBB := Aside0.mk ((((below_step (once_drew (Below.refl wr.heap.size wr)) hb9).setCell hge (.int .i64 p.c)).setCell hge (.bool true)) : Below wr.heap.size wr ((w9.setCell ⟨gn, 0, none⟩ (.int .i64 p.c)).setCell ⟨gn, 1, none⟩ (.bool true)))
            clear hgn hb9 hge
            go_upto_region 25 with (fail)
            have HN9 := Aside0.mk (blk_put (blk_put HGN.out 0 (.int .i64 p.c) rfl) 1 (.bool true) rfl)
            have M5 := Aside0.mk (HM.out.below HBB.out)
            clear HM HBB HGN zn0 zn1 dn0 dn1
            generalize (w9.setCell ⟨gn, 0, none⟩ (.int .i64 p.c)).setCell ⟨gn, 1, none⟩ (.bool true) = w5 at *
            obtain ⟨K, hkk⟩ : ∃ K, (onceI p.ks)[j]? = some (.int .i64 K) ∧ K = p.ks.getD j 0 := ⟨_, by have h9 := HI.out.lk; simp [onceI, List.getElem?_eq_getElem (show j < p.ks.length by omega), List.getD_eq_getElem?_getD], rfl⟩
            have hKE := HI.out.ka j hj
            rw [HAT.out, ← hkk.2] at hKE
            have hKE2 := hKE.1 ct
            have HKK := Aside0.mk (And.intro hkk.1 hKE2)
            clear hkk hKE hKE2
            go_upto_region 27 with (first
              | (go_at_call 24; (with_reducible refine (once_Ask_yes g gk gb p.E p.S K _ _ j hj HKK.out.1 HKK.out.2 _ M5.out.hW).mono ?_); rintro e7 w7 ⟨rfl, n7, rfl⟩))
            have M6 := Aside0.mk (((M5.out.setS p.E).setK j p.E).drewN n7)
            have NE := Aside0.mk (M5.out.apart HN9.out)
            have HN10 := Aside0.mk (show (((w5.setCell ⟨g, 1, none⟩ (.int .i64 p.E)).setCell ⟨gk, j, none⟩ (.int .i64 p.E)).drewN n7).heap[gn]? = some (.cells #[.int .i64 p.c, .bool true] 23 (0, 0)) from blk_far (blk_far HN9.out NE.out.1 _) NE.out.2.1 _)
            clear M5 HN9
            generalize ((w5.setCell ⟨g, 1, none⟩ (.int .i64 p.E)).setCell ⟨gk, j, none⟩ (.int .i64 p.E)).drewN n7 = w8 at *
            have dn0 := (blk_cell HN10.out 0).trans (rfl : _ = some (Value.int .i64 p.c))
            have dn1 := (blk_cell HN10.out 1).trans (rfl : _ = some (Value.bool true))
            have ce0 := (blk_cell M6.out.hE 0).trans (rfl : _ = some (Value.int .i64 _))
            have ce1 := (blk_cell M6.out.hE 1).trans (rfl : _ = some (Value.bool _))
            have z0 := blk_frozen M6.out.hE 0
            have z1 := blk_frozen M6.out.hE 1
            have hne := M6.out.ne.2.2.2.2.2.2.2.2.2
            have hne2 := Ne.symm hne
            obtain ⟨a9, ha9⟩ : ∃ a9, (onceI p.ats)[j]? = some a9 := ⟨_, Array.getElem?_eq_getElem (by have := HI.out.la; simp [onceI]; omega)⟩
            have ca := (blk_cell M6.out.hA j).trans ha9
            have za := blk_frozen M6.out.hA j
            have hj0 : (0 : Int) ≤ (j : Int) := by omega
            have hj4 : (j : Int) < 4 := by omega
            go_upto_region 28 with (fail)
            have M7 := Aside0.mk ((M6.out.setErr p.c true).setA j p.c)
            clear M6 HN10 dn0 dn1 ce0 ce1 z0 z1 hne hne2 ha9 ca za
            generalize ((w8.setCell ⟨ge, 0, none⟩ (.int .i64 p.c)).setCell ⟨ge, 1, none⟩ (.bool true)).setCell ⟨ga, j, none⟩ (.int .i64 p.c) = w9 at *
            have hi60 : i ≤ 60 := by omega
            go_upto_region 29 with (first
              | (at_builtin; refine once_append M7.out hi60 rfl _ _ rfl true rfl rfl ?_; intro v8 w10 M8'; have M8 := Aside0.mk M8'; clear M8' M7))
            have HN := Aside0.mk (once_told_inv HI.out j hj (by rw [HAT.out]; exact ct))
            have ce0 := (blk_cell M8.out.hE 0).trans (rfl : _ = some (Value.int .i64 _))
            have ce1 := (blk_cell M8.out.hE 1).trans (rfl : _ = some (Value.bool _))
            go_wp2_with (first
              | (go_at_call 9; (with_reducible refine (errseq_Valid.calls _ _ true _ (once_valid HN.out (by omega))).mono ?_); rintro e9 w9 ⟨rfl, hb⟩; have B9 := Aside0.mk hb; clear hb))
            go_roundg kx
            case measure => omega
            case rel => exact ⟨i + 1, by simp, by omega, _, ⟨(M8.out.below B9.out)⟩, HN⟩
        · obtain ⟨kk, hs⟩ := once_check HI.out (by omega) j hj
          rw [HAT.out, if_neg ct] at hs
          have HS := Aside0.mk hs
          clear hs
          refine Stab.region_stable (by kernel_rfl) [0, 1, 2, 3, 4, 5, 6, 7, 8, 9] [10, 11, 12] [7, 8] _ _ (OncePhi ge ga j wr.heap.size p.c p.s at9 p.s at9 0) (by kernel_rfl) (by simp [Stab.dstsOf, Stab.dstAt]) (OncePhi.stable ge ga j wr.heap.size p.c p.s at9 p.s at9 0) ?_ (fun _ _ d _ _ h => by cases d <;> exact h) ?_ ?_
          · intro i9 hi9 o ho
            simp only [List.mem_cons, List.not_mem_nil, or_false] at hi9
            rcases hi9 with rfl | rfl | rfl | rfl | rfl | rfl | rfl | rfl | rfl | rfl
            all_goals (obtain rfl := Option.some.inj ho; clear ho; intro a9 w9 hb9 hf9 hn9 K9 hK9; rw [if_pos (by rfl)])
            · have v6 := (hf9 6 (by decide)).trans (rfl : _ = some (Value.pointer (some ⟨ge, 0, none⟩)))
              have d0 := pw_cell_below hb9 (show wr.drew.cell? _ = _ from ce0)
              have d1 := pw_cell_below hb9 (show wr.drew.cell? _ = _ from ce1)
              go_simp
              exact hK9 _ _ (Below.refl _ _) rfl
            · have v9 := (hf9 9 (by decide)).trans (rfl : _ = some (Value.int .i64 (j : Int)))
              go_simp
              exact hK9 _ _ (Below.refl _ _) rfl
            · have v5 := (hf9 5 (by decide)).trans (rfl : _ = some (Value.pointer (some ⟨ga, 0, none⟩)))
              obtain ⟨_, v77, rfl⟩ := hn9 1 _ 77 (by decide) rfl rfl
              have hj0 : (0 : Int) ≤ (j : Int) := by omega
              have hj4 : (j : Int) < 4 := by omega
              go_simp
              exact hK9 _ _ (Below.refl _ _) rfl
            · obtain ⟨_, v78, rfl⟩ := hn9 2 _ 78 (by decide) rfl rfl
              have d0 := pw_cell_below hb9 (show wr.drew.cell? _ = _ from ca)
              go_simp
              exact hK9 _ _ (Below.refl _ _) rfl
            · obtain ⟨_, v76, rfl⟩ := hn9 0 _ 76 (by decide) rfl rfl
              obtain ⟨_, v79, rfl⟩ := hn9 3 _ 79 (by decide) rfl rfl
              go_simp
              refine (errseq_Check.calls kk p.c p.s at9 _ _ _ _ _ HS.out).mono ?_
              rintro e4 w4 ⟨rfl, hb⟩
              exact hK9 _ _ hb rfl
            · obtain ⟨_, v80, rfl⟩ := hn9 4 _ 80 (by decide) rfl rfl
              go_simp
              exact hK9 _ _ (Below.refl _ _) rfl
            · obtain ⟨_, v75, rfl⟩ := hn9 5 _ 75 (by decide) rfl rfl
              go_simp
              exact hK9 _ _ (Below.refl _ _) rfl
            · obtain ⟨_, v75, rfl⟩ := hn9 5 _ 75 (by decide) rfl rfl
              go_simp
              exact hK9 _ _ (Below.refl _ _) rfl
            · obtain ⟨_, v75, rfl⟩ := hn9 5 _ 75 (by decide) rfl rfl
              go_simp
              exact hK9 _ _ (Below.refl _ _) rfl
            · go_simp
              exact hK9 _ _ (below_alloc (Below.refl _ _) _) ⟨w9.heap.size, rfl, blk_new _ _, hb9.size⟩
          · intro i9 hi9 o ho
            simp only [List.mem_cons, List.not_mem_nil, or_false] at hi9
            rcases hi9 with rfl | rfl
            all_goals (obtain rfl := Option.some.inj ho; clear ho; intro a9 w9 hb9 hf9 hn9; obtain ⟨_, v75, rfl⟩ := hn9 5 _ 75 (by decide) rfl rfl; refine ⟨_, .inl ⟨rfl, fun w => ?_⟩, rfl⟩; go_simp)
          · intro vs w9 hb9 hvs
            have x0 : vs 76 = _ := hvs 0 (by decide) 76 rfl
            have x1 : vs 77 = _ := hvs 1 (by decide) 77 rfl
            have x2 : vs 78 = _ := hvs 2 (by decide) 78 rfl
            have x3 : vs 79 = _ := hvs 3 (by decide) 79 rfl
            have x4 : vs 80 = _ := hvs 4 (by decide) 80 rfl
            have x5 : vs 75 = _ := hvs 5 (by decide) 75 rfl
            have x6 : vs 81 = _ := hvs 6 (by decide) 81 rfl
            have x7 : vs 82 = _ := hvs 7 (by decide) 82 rfl
            have x8 : vs 83 = _ := hvs 8 (by decide) 83 rfl
            obtain ⟨gn, x9, hgn, hge⟩ := hvs 9 (by decide) 14 rfl
            simp only [Stab.dstsOf, Stab.dstAt, List.filterMap_cons, List.filterMap_nil, List.map_cons, List.map_nil, Stab.putL, x0, x1, x2, x3, x4, x5, x6, x7, x8, x9, List.getElem?_toArray, List.getElem?_cons_zero, List.getElem?_cons_succ, Option.bind_some, Act.put, List.setIfInBounds_toArray, List.set_cons_zero, List.set_cons_succ]
            clear x0 x1 x2 x3 x4 x5 x6 x7 x8 x9 hvs ce0 ce1 ca
            have zn0 := blk_frozen hgn 0
            have zn1 := blk_frozen hgn 1
            have dn0 := (blk_cell hgn 0).trans (rfl : _ = some (Value.int .i64 0))
            have dn1 := (blk_cell hgn 1).trans (rfl : _ = some (Value.bool false))
            have HGN := Aside0.mk hgn
            have HBB := Aside0.mk ((((below_step (once_drew (Below.refl wr.heap.size wr)) hb9).setCell hge (.int .i64 p.c)).setCell hge (.bool p.s)) : Below wr.heap.size wr ((w9.setCell ⟨gn, 0, none⟩ (.int .i64 p.c)).setCell ⟨gn, 1, none⟩ (.bool p.s)))
            clear hgn hb9 hge
            go_upto_region 25 with (fail)
            have HN9 := Aside0.mk (blk_put (blk_put HGN.out 0 (.int .i64 p.c) rfl) 1 (.bool p.s) rfl)
            have M5 := Aside0.mk (HM.out.below HBB.out)
            clear HM HBB HGN zn0 zn1 dn0 dn1
            generalize (w9.setCell ⟨gn, 0, none⟩ (.int .i64 p.c)).setCell ⟨gn, 1, none⟩ (.bool p.s) = w5 at *
            obtain ⟨K, hkk⟩ : ∃ K, (onceI p.ks)[j]? = some (.int .i64 K) ∧ K = p.ks.getD j 0 := ⟨_, by have h9 := HI.out.lk; simp [onceI, List.getElem?_eq_getElem (show j < p.ks.length by omega), List.getD_eq_getElem?_getD], rfl⟩
            have hKE := HI.out.ka j hj
            rw [HAT.out, ← hkk.2] at hKE
            have hKE2 := mt hKE.2 ct
            have HKK := Aside0.mk (And.intro hkk.1 hKE2)
            clear hkk hKE hKE2
            go_upto_region 27 with (first
              | (go_at_call 24; (with_reducible refine (once_Ask_no g gk gb p.E p.S K _ _ j hj HKK.out.1 HKK.out.2 _ M5.out.hW).mono ?_); rintro e7 w7 ⟨rfl, n7, rfl⟩))
            have M6 := Aside0.mk ((M5.out.setK j p.E).drewN n7)
            have NE := Aside0.mk (M5.out.apart HN9.out)
            have HN10 := Aside0.mk (show ((w5.setCell ⟨gk, j, none⟩ (.int .i64 p.E)).drewN n7).heap[gn]? = some (.cells #[.int .i64 p.c, .bool p.s] 23 (0, 0)) from blk_far HN9.out NE.out.2.1 _)
            clear M5 HN9
            generalize (w5.setCell ⟨gk, j, none⟩ (.int .i64 p.E)).drewN n7 = w8 at *
            have dn0 := (blk_cell HN10.out 0).trans (rfl : _ = some (Value.int .i64 p.c))
            have dn1 := (blk_cell HN10.out 1).trans (rfl : _ = some (Value.bool p.s))
            have ce0 := (blk_cell M6.out.hE 0).trans (rfl : _ = some (Value.int .i64 _))
            have ce1 := (blk_cell M6.out.hE 1).trans (rfl : _ = some (Value.bool _))
            have z0 := blk_frozen M6.out.hE 0
            have z1 := blk_frozen M6.out.hE 1
            have hne := M6.out.ne.2.2.2.2.2.2.2.2.2
            have hne2 := Ne.symm hne
            obtain ⟨a9, ha9⟩ : ∃ a9, (onceI p.ats)[j]? = some a9 := ⟨_, Array.getElem?_eq_getElem (by have := HI.out.la; simp [onceI]; omega)⟩
            have ca := (blk_cell M6.out.hA j).trans ha9
            have za := blk_frozen M6.out.hA j
            have hj0 : (0 : Int) ≤ (j : Int) := by omega
            have hj4 : (j : Int) < 4 := by omega
            go_upto_region 28 with (fail)
            have M7 := Aside0.mk ((M6.out.setErr p.c p.s).setA j at9)
            clear M6 HN10 dn0 dn1 ce0 ce1 z0 z1 hne hne2 ha9 ca za
            generalize ((w8.setCell ⟨ge, 0, none⟩ (.int .i64 p.c)).setCell ⟨ge, 1, none⟩ (.bool p.s)).setCell ⟨ga, j, none⟩ (.int .i64 at9) = w9 at *
            have hi60 : i ≤ 60 := by omega
            go_upto_region 29 with (first
              | (at_builtin; refine once_append M7.out hi60 rfl _ _ rfl false rfl rfl ?_; intro v8 w10 M8'; have M8 := Aside0.mk M8'; clear M8' M7))
            have HN := Aside0.mk (by have h9 := once_same_inv HI.out j hj (by rw [HAT.out]; omega); rw [HAT.out] at h9; exact h9)
            have ce0 := (blk_cell M8.out.hE 0).trans (rfl : _ = some (Value.int .i64 _))
            have ce1 := (blk_cell M8.out.hE 1).trans (rfl : _ = some (Value.bool _))
            go_wp2_with (first
              | (go_at_call 9; (with_reducible refine (errseq_Valid.calls _ _ true _ (once_valid HN.out (by omega))).mono ?_); rintro e9 w9 ⟨rfl, hb⟩; have B9 := Aside0.mk hb; clear hb))
            go_roundg kx
            case measure => omega
            case rel => exact ⟨i + 1, by simp, by omega, _, ⟨(M8.out.below B9.out)⟩, HN⟩
      · have k0' : (kind == 0) = false := by simpa using k0
        have k1' : (kind == 1) = false := by simpa using k1
        have k2' : (kind == 2) = false := by simpa using k2
        clear k0 k1 k2
        go_upto_region 29 with (fail)
        have M8 := Aside0.mk HM.out.more
        have HN := Aside0.mk (once_next_inv HI.out)
        clear HM
        have ce0 := (blk_cell M8.out.hE 0).trans (rfl : _ = some (Value.int .i64 _))
        have ce1 := (blk_cell M8.out.hE 1).trans (rfl : _ = some (Value.bool _))
        go_wp2_with (first
          | (go_at_call 9; (with_reducible refine (errseq_Valid.calls _ _ true _ (once_valid HN.out (by omega))).mono ?_); rintro e9 w9 ⟨rfl, hb⟩; have B9 := Aside0.mk hb; clear hb))
        go_roundg kx
        case measure => omega
        case rel => exact ⟨i + 1, by simp, by omega, _, ⟨(M8.out.below B9.out)⟩, HN⟩

end Go.Proofs.Ytminfgfigpiajaa.E

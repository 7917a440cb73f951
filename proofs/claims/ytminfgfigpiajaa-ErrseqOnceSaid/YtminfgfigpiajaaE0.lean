-- Written by a program of this session (own_print.py) that runs the kit's printer. Lean checks it.
import Derived.Test.YtminfgfigpiajaaProg
import Derived.Below
import Derived.Deep.Draws
import Derived.Deep.AppendLies
import Derived.Maps.AppendAt
import Derived.OwnWalk
import Derived.Laws.BytesArg
import Derived.Laws.MakeOwn
import Derived.Laws.OwnMore
import Derived.Deep.OwnRows
import Derived.Tactics
import Derived.Lib.ConvBytes
import Derived.Laws.Slices
import Derived.WalkKit
import Derived.KernelRfl
import Derived.RowKit3
import Derived.Deep.LoopGhost
import Derived.Deep.QuietTactic
import Derived.BigQuiet
import Derived.WideLaws
import Derived.Deep.DeepCutAuto
import Derived.Deep.CutBlock
import Derived.Deep.RegionHeld3
import Derived.Laws.Rows
import Derived.Lib.AppendStr
import Derived.ArgAppend
import Derived.Laws.IdiomCopy
import Derived.OrdersHeld
import Derived.Laws.BitsLemmas
import Derived.RowKit
import Derived.Test.YtminfgfigpiajaaVMoreWGuard
namespace Go.Proofs.Ytminfgfigpiajaa.E
open Go.RowKit Go.Proofs.YtminfgfigpiajaaW.PrintWords Go.Proofs.YtminfgfigpiajaaW.PrintLast Go.Proofs.YtminfgfigpiajaaW.PrintMore
attribute [local go_sem] max2_int min2_int max_two min_two max_three min_three max_four min_four   -- for this text's walks alone
set_option linter.unusedVariables false
set_option linter.unusedSimpArgs false



def errW : Option Int → Value
  | none => .nilIface
  | some c => .iface 0 (.int .i64 c)
theorem errW_none : errW none = .nilIface := rfl
theorem errW_some (c : Int) : errW (some c) = .iface 0 (.int .i64 c) := rfl

-- the values' own types
/-! #### struct type 43 -/
structure S43 where
  f0 : Int
  f1 : Int
def z43 : S43 := ⟨(0 : Int), (0 : Int)⟩
def k43 : Kd S43 := Kd.iso (Kd.pair (Kd.int .i64) (Kd.int .i64)) (fun x : S43 => (x.f0, x.f1))
theorem k43_open {w : World} {x : S43} {cs : List Value} (h : k43.K w x cs) : cs = [.int .i64 x.f0, .int .i64 x.f1] := by
  obtain ⟨_, _, rfl, rfl, rfl⟩ := h
  exact rfl
theorem k43_openM {w : World} {base : Nat} {ok : Nat → Prop} {x : S43} {cs : List Value} (h : k43.M w base ok x cs) : cs = [.int .i64 x.f0, .int .i64 x.f1] := by
  obtain ⟨_, _, rfl, rfl, rfl⟩ := h
  exact rfl
theorem k43_mk (w : World) (x : S43)  : k43.K w x [.int .i64 x.f0, .int .i64 x.f1] := ⟨[.int .i64 x.f0], [.int .i64 x.f1], rfl, rfl, rfl⟩
theorem k43_mkM (w : World) (base : Nat) (ok : Nat → Prop) (x : S43)  : k43.M w base ok x [.int .i64 x.f0, .int .i64 x.f1] := ⟨[.int .i64 x.f0], [.int .i64 x.f1], rfl, rfl, rfl⟩
def rd_T43 (xs : List S43) (i : Int) : S43 := xs.getD i.toNat z43
theorem at_T43 {w : World} {A : Option Addr} {n : Nat} {xs : List S43} (h : Kd.C k43 w A n xs) (i : Int) (h0 : 0 ≤ i) (h1 : i < n) : ∃ ad , A = some ad ∧ w.cell? (ad.add (i.toNat * 2)) = some (.int .i64 (rd_T43 xs i).f0) ∧ w.cell? ⟨(ad.add (i.toNat * 2)).block, (ad.add (i.toNat * 2)).off + 1, none⟩ = some (.int .i64 (rd_T43 xs i).f1) := by
  obtain ⟨ad, c, e, _, hK, hc0⟩ := Kd.C_get h z43 i h0 h1
  have hc : ∀ j u, c[j]? = some u → w.cell? (ad.add (i.toNat * 2 + j)) = some u := hc0
  obtain rfl := k43_open hK
  exact ⟨ad, e, hc 0 _ rfl, by rw [← add_field _ _ 1 (by omega)]; exact hc 1 _ rfl⟩

def rd_L3 (xs : List (List S43)) (i : Int) : (List S43) := xs.getD i.toNat ([] : List S43)
theorem at_L3 {w : World} {A : Option Addr} {n : Nat} {xs : List (List S43)} (h : Kd.C (Kd.slice 43 k43) w A n xs) (i : Int) (h0 : 0 ≤ i) (h1 : i < n) : ∃ ad A0 c0, A = some ad ∧ w.cell? (ad.add i.toNat) = some (.slice A0 (rd_L3 xs i).length c0) ∧ (rd_L3 xs i).length ≤ c0 ∧ k43.C w A0 (rd_L3 xs i).length (rd_L3 xs i) := by
  obtain ⟨ad, c, e, _, hK, hc0⟩ := Kd.C_get h ([] : List S43) i h0 h1
  have hc : ∀ j u, c[j]? = some u → w.cell? (ad.add (i.toNat * 1 + j)) = some u := hc0
  obtain ⟨A0, c0, rfl, l0, g0⟩ := hK
  exact ⟨ad, A0, c0, e, by have hq := hc 0 _ rfl; rwa [Nat.mul_one, Nat.add_zero] at hq, l0, g0⟩

def rd_L4 (xs : List (List Bool)) (i : Int) : (List Bool) := xs.getD i.toNat ([] : List Bool)
theorem at_L4 {w : World} {A : Option Addr} {n : Nat} {xs : List (List Bool)} (h : Kd.C (Kd.slice 4 Kd.bool) w A n xs) (i : Int) (h0 : 0 ≤ i) (h1 : i < n) : ∃ ad A0 c0, A = some ad ∧ w.cell? (ad.add i.toNat) = some (.slice A0 (rd_L4 xs i).length c0) ∧ (rd_L4 xs i).length ≤ c0 ∧ Kd.bool.C w A0 (rd_L4 xs i).length (rd_L4 xs i) := by
  obtain ⟨ad, c, e, _, hK, hc0⟩ := Kd.C_get h ([] : List Bool) i h0 h1
  have hc : ∀ j u, c[j]? = some u → w.cell? (ad.add (i.toNat * 1 + j)) = some u := hc0
  obtain ⟨A0, c0, rfl, l0, g0⟩ := hK
  exact ⟨ad, A0, c0, e, by have hq := hc 0 _ rfl; rwa [Nat.mul_one, Nat.add_zero] at hq, l0, g0⟩

theorem cell_keep {W : World} {p a : Addr} {u v : Value} (hp : W.cell? p = some u) (ha : W.cell? a = some v) : (W.setCell p u).cell? a = some v := by
  by_cases e : p = a
  · subst e; exact (World.cell?_setCell_same W p u hp).trans (hp.symm.trans ha)
  · exact (World.cell?_setCell_other W p a u e).trans ha

section
open Go Go.RowKit
namespace Stab
/-! A region that draws its order, whose operations do not disturb each other: each operation is shown once, whatever the order. -/

def needsOf (o : Oper) : List Nat := (o.after.toList.filter (fun e => Region.binds .any e)).map (fun e => e.on)
def needsAt (ops : Array Oper) (i : Nat) : List Nat := match ops[i]? with
  | some o => needsOf o
  | none => []
def look (acc : List (Nat × List Nat)) (i : Nat) : List Nat := match acc with
  | [] => []
  | p :: r => if p.1 = i then p.2 else look r i
/-- What has come up when i comes up: the operations that it waits for, directly or not. -/
def ancs (ops : Array Oper) : List Nat → List (Nat × List Nat) → List (Nat × List Nat)
  | [], acc => acc
  | i :: r, acc => ancs ops r ((i, (needsAt ops i ++ (needsAt ops i).flatMap (fun j => look acc j)).eraseDups) :: acc)
def dstAt (ops : Array Oper) (i : Nat) : Option Tmp := (ops[i]?).bind (·.dst)
def dstsOf (ops : Array Oper) (l : List Nat) : List Tmp := l.filterMap (dstAt ops)
/-- each operation's needs come before it -/
def ordB (ops : Array Oper) : List Nat → List Nat → Bool
  | _, [] => true
  | done, i :: r => (needsAt ops i).all (fun j => done.contains j) && ordB ops (i :: done) r
/-- the last ones: each waits for all that stands before it, but for the late ones -/
def finB (anc : List (Nat × List Nat)) (late : List Nat) : List Nat → List Nat → Bool
  | _, [] => true
  | done, f :: r => done.all (fun j => late.contains j || (look anc f).contains j) && finB anc late (f :: done) r
/-- a late one disturbs nobody that may come up beside it -/
def lateB (ops : Array Oper) (others : List Nat) (i : Nat) : Bool := match ops[i]? with
  | none => false
  | some oi => others.all fun j => j == i || match ops[j]? with
      | some oj => oj.after.any (fun e => Region.binds .any e && e.on == i) || oi.apart ops oj
      | none => true
def stableB (ops : Array Oper) (nf fin late : List Nat) : Bool :=
  Region.noSelect ops && late.all (fun i => nf.contains i && lateB ops (late ++ fin) i) && (List.range ops.size).all (fun i => (nf ++ fin).contains i) && (nf ++ fin).all (fun i => decide (i < ops.size)) && decide ((nf ++ fin).Nodup) && decide ((dstsOf ops (nf ++ fin)).Nodup) &&
    ordB ops [] (nf ++ fin) && finB (ancs ops (nf ++ fin) []) late nf.reverse fin && nf.all (fun i => (needsAt ops i).all (fun j => nf.contains j))
def putL (a : Act) : List (Tmp × Value) → Act
  | [] => a
  | p :: r => putL (a.put (some p.1) p.2) r

section
variable {P : Program} {ops : Array Oper} {Q : Exit → Act → World → Prop}

theorem look_mem {acc : List (Nat × List Nat)} {i b : Nat} (h : b ∈ look acc i) : ∃ l, (i, l) ∈ acc ∧ b ∈ l := by
  induction acc with
  | nil => simp [look] at h
  | cons p r ih =>
    unfold look at h
    split at h
    · rename_i e
      exact ⟨p.2, by rw [← e]; simp, h⟩
    · obtain ⟨l, h1, h2⟩ := ih h
      exact ⟨l, List.mem_cons_of_mem _ h1, h2⟩
/-- what the table says, of a set of operations that holds with each one what it waits for -/
theorem ancs_good {S : Nat → Prop} (hc : ∀ j, S j → ∀ k ∈ needsAt ops j, S k) : ∀ (r : List Nat) (acc : List (Nat × List Nat)),
    (∀ i l, (i, l) ∈ acc → (∀ j ∈ needsAt ops i, S j) → ∀ b ∈ l, S b) → ∀ i l, (i, l) ∈ ancs ops r acc → (∀ j ∈ needsAt ops i, S j) → ∀ b ∈ l, S b
  | [], acc, h => h
  | q :: r, acc, h => ancs_good hc r _ (by
      intro i l hm hn b hb
      rcases List.mem_cons.1 hm with e | hm
      · injection e with e1 e2
        subst e1
        subst e2
        rw [List.mem_eraseDups, List.mem_append, List.mem_flatMap] at hb
        rcases hb with hb | ⟨j, hj, hb⟩
        · exact hn b hb
        · obtain ⟨l, h1, h2⟩ := look_mem hb
          exact h j l h1 (hc j (hn j hj)) b h2
      · exact h i l hm hn b hb)
theorem mem_ready' {listed : Array Bool} {i : Nat} : i ∈ Region.ready .any ops listed ↔ i < ops.size ∧ listed.getD i true = false ∧ ∀ j ∈ needsAt ops i, listed.getD j false = true := by
  unfold Region.ready needsAt needsOf
  rw [List.mem_filter, List.mem_range]
  constructor
  · rintro ⟨h1, h2⟩
    rw [Array.getElem?_eq_getElem h1] at h2 ⊢
    simp only [Option.map_some, Option.getD_some, Bool.and_eq_true, Bool.not_eq_true'] at h2
    refine ⟨h1, h2.1, fun j hj => ?_⟩
    obtain ⟨e, he, rfl⟩ := List.mem_map.1 hj
    rw [List.mem_filter] at he
    have h3 := (Array.all_eq_true_iff_forall_mem.1 h2.2) e (by simpa using he.1)
    simpa [he.2] using h3
  · rintro ⟨h1, h2, h3⟩
    refine ⟨h1, ?_⟩
    rw [Array.getElem?_eq_getElem h1] at h3 ⊢
    simp only [Option.map_some, Option.getD_some, Bool.and_eq_true, Bool.not_eq_true']
    refine ⟨h2, Array.all_eq_true_iff_forall_mem.2 fun e he => ?_⟩
    cases hb : Region.binds .any e with
    | false => simp
    | true => simpa using h3 e.on (List.mem_map.2 ⟨e, List.mem_filter.2 ⟨by simpa using he, hb⟩, rfl⟩)
theorem getD_tf {listed : Array Bool} {i n : Nat} (hs : listed.size = n) (hi : i < n) : listed.getD i true = listed.getD i false := by
  simp [Array.getD, hs, hi]
theorem getD_set {listed : Array Bool} {i j : Nat} (b : Bool) (hi : i < listed.size) : (listed.setIfInBounds i true).getD j b = if i = j then true else listed.getD j b := by
  simp only [Array.getD_eq_getD_getElem?, Array.getElem?_setIfInBounds]
  by_cases e : i = j
  · subst e; simp [hi]
  · simp [e]
theorem fin_phase (ord late : List Nat) (anc : List (Nat × List Nat)) (hanc : anc = ancs ops ord []) : ∀ (fs done : List Nat) (listed : Array Bool) (a : Act) (w : World),
    listed.size = ops.size → (∀ i, i < ops.size → (listed.getD i false = true ↔ i ∈ done)) → (∀ i, i < ops.size → i ∈ done ∨ i ∈ fs) → (∀ f ∈ fs, f < ops.size ∧ f ∉ done ∧ f ∉ late) → fs.Nodup → (∀ j ∈ done, ∀ k ∈ needsAt ops j, k < ops.size ∧ k ∈ done) →
    ordB ops done fs = true → finB anc late done fs = true → (∀ j ∈ done, j < ops.size) → wpList P ops Q (fs.filterMap (fun i => ops[i]?)) a w → wpAny P .any ops Q fs.length listed a w
  | [], done, listed, a, w, hs, hl, hall, hf, hn, hc, ho, hfb, hd, h => by
    have hr : Region.ready .any ops listed = [] := by
      rw [List.eq_nil_iff_forall_not_mem]
      intro i hi
      obtain ⟨h1, h2, _⟩ := mem_ready'.1 hi
      rcases hall i h1 with h3 | h3
      · rw [getD_tf hs h1, (hl i h1).2 h3] at h2; cases h2
      · cases h3
    exact ⟨hr, h⟩
  | f :: fs, done, listed, a, w, hs, hl, hall, hf, hn, hc, ho, hfb, hd, h => by
    obtain ⟨hf1, hf2, hf3⟩ := hf f List.mem_cons_self
    simp only [ordB, Bool.and_eq_true] at ho
    simp only [finB, Bool.and_eq_true] at hfb
    have hno : ∀ i, i < ops.size → i ∉ done → listed.getD i true = false := fun i hi hd => by
      rw [getD_tf hs hi]
      cases e : listed.getD i false with
      | false => rfl
      | true => exact absurd ((hl i hi).1 e) hd
    have hneed : ∀ j ∈ needsAt ops f, j ∈ done := fun j hj => by simpa using List.all_eq_true.1 ho.1 j hj
    have hrf : f ∈ Region.ready .any ops listed := mem_ready'.2 ⟨hf1, hno f hf1 hf2, fun j hj => (hl j (hd j (hneed j hj))).2 (hneed j hj)⟩
    have honly : ∀ i ∈ Region.ready .any ops listed, i = f := by
      intro i hi
      obtain ⟨h1, h2, h3⟩ := mem_ready'.1 hi
      rcases hall i h1 with h4 | h4
      · rw [getD_tf hs h1, (hl i h1).2 h4] at h2; cases h2
      · rcases List.mem_cons.1 h4 with h5 | h5
        · exact h5
        · -- a later one waits for f
          exfalso
          have hk : ∀ (r d : List Nat), finB anc late d r = true → i ∈ r → ∀ x ∈ d, x ∉ late → x ∈ look anc i := by
            intro r
            induction r with
            | nil => intro d _ hi; cases hi
            | cons q r ih =>
              intro d hq hi x hx hl
              simp only [finB, Bool.and_eq_true] at hq
              rcases List.mem_cons.1 hi with e | hi
              · subst e
                have h9 := List.all_eq_true.1 hq.1 x hx
                simpa [hl] using h9
              · exact ih (q :: d) hq.2 hi x (List.mem_cons_of_mem _ hx) hl
          have h6 : f ∈ look anc i := hk fs (f :: done) hfb.2 h5 f List.mem_cons_self hf3
          obtain ⟨l, h7, h8⟩ := look_mem h6
          subst hanc
          have h9 := ancs_good (S := fun j => j < ops.size ∧ j ∈ done) (fun j hj k hk => hc j hj.2 k hk) ord [] (fun _ _ hm => by cases hm) i l h7
            (fun j hj => by
              have h10 := h3 j hj
              have h11 : j < ops.size := by
                rcases Nat.lt_or_ge j ops.size with h | h
                · exact h
                · simp [Array.getD, hs, Nat.not_lt.2 h] at h10
              exact ⟨h11, (hl j h11).1 h10⟩) f h8
          exact hf2 h9.2
    refine ⟨fun e => (by rw [e] at hrf; cases hrf), fun i hi => ?_⟩
    obtain rfl := honly i hi
    have hget : ops[i]? = some ops[i] := Array.getElem?_eq_getElem hf1
    have h' : wpList P ops Q (ops[i] :: fs.filterMap (fun i => ops[i]?)) a w := by simpa [List.filterMap_cons, hget] using h
    have go : ∀ a' w', wpList P ops Q (fs.filterMap (fun i => ops[i]?)) a' w' → wpAny P .any ops Q fs.length (listed.setIfInBounds i true) a' w' := fun a' w' hh =>
      fin_phase ord late anc hanc fs (i :: done) (listed.setIfInBounds i true) a' w' (by simpa using hs)
        (fun k hk => by
          rw [getD_set false (by rw [hs]; exact hf1)]
          by_cases e : i = k
          · simp [e]
          · rw [if_neg e, hl k hk]; simp [Ne.symm e])
        (fun k hk => by
          rcases hall k hk with h | h
          · exact .inl (List.mem_cons_of_mem _ h)
          · rcases List.mem_cons.1 h with h | h
            · exact .inl (by rw [h]; exact List.mem_cons_self)
            · exact .inr h)
        (fun g hg => ⟨(hf g (List.mem_cons_of_mem _ hg)).1, fun hm => by
          rcases List.mem_cons.1 hm with e | hm
          · subst e; exact (List.nodup_cons.1 hn).1 hg
          · exact (hf g (List.mem_cons_of_mem _ hg)).2.1 hm, (hf g (List.mem_cons_of_mem _ hg)).2.2⟩)
        (List.nodup_cons.1 hn).2
        (fun j hj k hk => by
          rcases List.mem_cons.1 hj with e | hj
          · subst e
            exact ⟨hd k (hneed k hk), List.mem_cons_of_mem _ (hneed k hk)⟩
          · exact ⟨(hc j hj k hk).1, List.mem_cons_of_mem _ (hc j hj k hk).2⟩)
        ho.2 hfb.2
        (fun j hj => by
          rcases List.mem_cons.1 hj with e | hj
          · subst e; exact hf1
          · exact hd j hj) hh
    unfold wpOp
    rw [hget]
    simp only
    unfold wpList at h'
    split at h'
    · rename_i hw
      rw [if_pos hw]
      exact h'.imp (Oper.wp_mono go) id
    · rename_i hw
      rw [if_neg hw]
      exact go _ _ h'
theorem putL_tmps : ∀ (D : List Tmp) (a a0 : Act), a.tmps.size = a0.tmps.size → a.defers = a0.defers → (∀ t, t ∉ D → a.tmps[t]? = a0.tmps[t]?) → putL a0 (D.map fun t => (t, a.tmps.getD t undef)) = a
  | [], a, a0, hs, hd, h => by
    obtain ⟨t, d⟩ := a
    obtain ⟨t0, d0⟩ := a0
    simp only at hd
    subst hd
    have : t0 = t := Array.ext_getElem? fun i => (h i (by simp)).symm
    subst this
    rfl
  | q :: D, a, a0, hs, hd, h => by
    simp only [List.map_cons, putL]
    refine putL_tmps D a _ ?_ ?_ ?_
    · simp [Act.put, hs]
    · simp [Act.put, hd]
    · intro t ht
      simp only [Act.put, Array.getElem?_setIfInBounds]
      by_cases e : q = t
      · subst e
        by_cases hq : q < a.tmps.size
        · rw [if_pos rfl, if_pos (by rw [← hs]; exact hq), Array.getElem?_eq_getElem hq]
          simp [Array.getD, hq]
        · rw [if_pos rfl, if_neg (by rw [← hs]; exact hq)]
          exact Array.getElem?_eq_none (Nat.le_of_not_lt hq)
      · rw [if_neg e]
        exact h t (by simp [Ne.symm e, ht])

/-- What is to be shown of an operation: whatever has come up before, it leaves a value of which Φ i holds, and touches nothing that was there. -/
def OpOK (P : Program) (ops : Array Oper) (Q : Exit → Act → World → Prop) (a0 : Act) (w0 : World) (Φ : Nat → Value → World → Prop) (ds : List Tmp) (i : Nat) (o : Oper) : Prop :=
  ∀ (a : Act) (w : World), Below w0.heap.size w0 w → (∀ t, t ∉ ds → a.tmps[t]? = a0.tmps[t]?) → (∀ j oj t, j ∈ needsOf o → ops[j]? = some oj → oj.dst = some t → ∃ v, a.tmps[t]? = some v ∧ Φ j v w) →
    ∀ K : Act → World → Prop, (∀ v w', Below w.heap.size w w' → Φ i v w' → K (a.put o.dst v) w') → (if Region.wanted o (yielded ops a.tmps) = true then o.wp P a w K Q else K (a.put o.dst undef) w)

/-- Of a late one: it yields its value whatever the world. -/
def LateOK (P : Program) (ops : Array Oper) (a0 : Act) (w0 : World) (Φ : Nat → Value → World → Prop) (ds : List Tmp) (i : Nat) (o : Oper) : Prop :=
  ∀ (a : Act) (w : World), Below w0.heap.size w0 w → (∀ t, t ∉ ds → a.tmps[t]? = a0.tmps[t]?) → (∀ j oj t, j ∈ needsOf o → ops[j]? = some oj → oj.dst = some t → ∃ v, a.tmps[t]? = some v ∧ Φ j v w) →
    ∃ v, Yields P ops o v a ∧ Φ i v w
structure St (ops : Array Oper) (a0 : Act) (w0 : World) (Φ : Nat → Value → World → Prop) (ds : List Tmp) (done : List Nat) (a : Act) (w : World) : Prop where
  size : a.tmps.size = a0.tmps.size
  defers : a.defers = a0.defers
  far : ∀ t, t ∉ ds → a.tmps[t]? = a0.tmps[t]?
  at_ : ∀ j ∈ done, ∀ t, dstAt ops j = some t → Φ j (a.tmps.getD t undef) w
  below : Below w0.heap.size w0 w
end
theorem below_two {w0 w w' : World} (h : Below w0.heap.size w0 w) (k : Below w.heap.size w w') : Below w0.heap.size w0 w' := h.trans (k.mono h.size)
theorem inj_of_nodup {α β : Type} {f : α → Option β} : ∀ {l : List α}, (l.filterMap f).Nodup → ∀ {i j : α} {t : β}, i ∈ l → j ∈ l → f i = some t → f j = some t → i = j
  | [], _, _, _, _, hi, _, _, _ => by cases hi
  | x :: l, hn, i, j, t, hi, hj, h1, h2 => by
    rw [List.filterMap_cons] at hn
    rcases List.mem_cons.1 hi with rfl | hi' <;> rcases List.mem_cons.1 hj with rfl | hj'
    · rfl
    · rw [h1] at hn
      exact absurd (List.mem_filterMap.2 ⟨j, hj', h2⟩) (List.nodup_cons.1 hn).1
    · rw [h2] at hn
      exact absurd (List.mem_filterMap.2 ⟨i, hi', h1⟩) (List.nodup_cons.1 hn).1
    · refine inj_of_nodup (l := l) ?_ hi' hj' h1 h2
      split at hn
      · exact hn
      · exact (List.nodup_cons.1 hn).2
theorem first_open {ops : Array Oper} {D : List Nat} : ∀ (r d : List Nat), ordB ops d r = true → (∀ j ∈ d, j ∈ D) → (∃ x ∈ r, x ∉ D) → ∃ x ∈ r, x ∉ D ∧ ∀ j ∈ needsAt ops x, j ∈ D
  | [], _, _, _, ⟨_, h, _⟩ => by cases h
  | q :: r, d, ho, hd, ⟨x, hx, hn⟩ => by
    simp only [ordB, Bool.and_eq_true] at ho
    by_cases hq : q ∈ D
    · obtain ⟨y, h1, h2⟩ := first_open r (q :: d) ho.2 (fun j hj => by
        rcases List.mem_cons.1 hj with e | hj
        · rw [e]; exact hq
        · exact hd j hj) ⟨x, by
          rcases List.mem_cons.1 hx with e | hx
          · subst e; exact absurd hq hn
          · exact hx, hn⟩
      exact ⟨y, List.mem_cons_of_mem _ h1, h2⟩
    · exact ⟨q, List.mem_cons_self, hq, fun j hj => hd j (by simpa using List.all_eq_true.1 ho.1 j hj)⟩
theorem ordB_left {ops : Array Oper} : ∀ (r s d : List Nat), ordB ops d (r ++ s) = true → ordB ops d r = true ∧ ordB ops (r.reverse ++ d) s = true
  | [], s, d, h => ⟨rfl, h⟩
  | q :: r, s, d, h => by
    simp only [List.cons_append, ordB, Bool.and_eq_true] at h ⊢
    obtain ⟨h1, h2⟩ := ordB_left r s (q :: d) h.2
    exact ⟨⟨h.1, h1⟩, by simpa using h2⟩
theorem finB_all {anc : List (Nat × List Nat)} {late : List Nat} : ∀ (r d : List Nat), finB anc late d r = true → ∀ i ∈ r, ∀ x ∈ d, x ∉ late → x ∈ look anc i
  | [], _, _, _, hi => by cases hi
  | q :: r, d, hq, i, hi => by
    simp only [finB, Bool.and_eq_true] at hq
    intro x hx hl
    rcases List.mem_cons.1 hi with e | hi
    · subst e
      have h9 := List.all_eq_true.1 hq.1 x hx
      simpa [hl] using h9
    · exact finB_all r (q :: d) hq.2 i hi x (List.mem_cons_of_mem _ hx) hl
section
variable {P : Program} {ops : Array Oper} {Q : Exit → Act → World → Prop}
theorem phase (nf fin late : List Nat) (a0 : Act) (w0 : World) (Φ : Nat → Value → World → Prop) (hchk : stableB ops nf fin late = true) (hsz : ∀ t ∈ dstsOf ops nf, t < a0.tmps.size)
    (hst : ∀ i v w w', Below w.heap.size w w' → Φ i v w → Φ i v w')
    (hop : ∀ i ∈ nf, ∀ o, ops[i]? = some o → OpOK P ops Q a0 w0 Φ (dstsOf ops nf) i o)
    (hQ : ∀ c (a : Act) d v w, Q (.panic c) (a.put d v) w → Q (.panic c) a w)
    (hlate : ∀ i ∈ late, ∀ o, ops[i]? = some o → LateOK P ops a0 w0 Φ (dstsOf ops nf) i o)
    (hfin : ∀ (vs : Tmp → Value) w, Below w0.heap.size w0 w → (∀ i ∈ nf, ∀ t, dstAt ops i = some t → Φ i (vs t) w) → wpList P ops Q (fin.filterMap (fun i => ops[i]?)) (putL a0 ((dstsOf ops nf).map fun t => (t, vs t))) w) :
    ∀ (fuel : Nat) (rem done : List Nat) (listed : Array Bool) (a : Act) (w : World), rem.length + fin.length = fuel → rem.Nodup → listed.size = ops.size → (∀ i, i < ops.size → (listed.getD i false = true ↔ i ∈ done)) →
      (∀ i ∈ nf, i ∈ done ∨ i ∈ rem) → (∀ i ∈ rem, i ∈ nf ∧ i ∉ done) → (∀ i ∈ done, i ∈ nf) → (∀ j ∈ done, ∀ k ∈ needsAt ops j, k ∈ done) → St ops a0 w0 Φ (dstsOf ops nf) done a w → wpAny P .any ops Q fuel listed a w := by
  simp only [stableB, Bool.and_eq_true, decide_eq_true_eq] at hchk
  obtain ⟨⟨⟨⟨⟨⟨⟨⟨k8, k9⟩, k1⟩, k2⟩, k3⟩, k4⟩, k5⟩, k6⟩, k7⟩ := hchk
  have all_in : ∀ i, i < ops.size → i ∈ nf ∨ i ∈ fin := fun i hi => by
    have := List.all_eq_true.1 k1 i (List.mem_range.2 hi)
    simpa using this
  have lt_of : ∀ i, i ∈ nf ∨ i ∈ fin → i < ops.size := fun i hi => by
    have := List.all_eq_true.1 k2 i (List.mem_append.2 hi)
    simpa using this
  have nf_need : ∀ i ∈ nf, ∀ j ∈ needsAt ops i, j ∈ nf := fun i hi j hj => by
    have := List.all_eq_true.1 (List.all_eq_true.1 k7 i hi) j hj
    simpa using this
  obtain ⟨o1, o2⟩ := ordB_left nf fin [] k5
  have late_in : ∀ i ∈ late, i ∈ nf ∧ lateB ops (late ++ fin) i = true := fun i hi => by
    have := List.all_eq_true.1 k9 i hi
    simpa using this
  have hnd := List.nodup_append.1 k3
  intro fuel
  induction fuel with
  | zero =>
    intro rem done listed a w hlen hrn hls hl hall hrem hdone hclosed hSt
    have hr0 : rem = [] := List.eq_nil_of_length_eq_zero (by omega)
    have hf0 : fin = [] := List.eq_nil_of_length_eq_zero (by omega)
    subst hr0
    have hdn : ∀ i, i ∈ done ↔ i ∈ nf := fun i => ⟨hdone i, fun h => by rcases hall i h with h | h; exact h; cases h⟩
    have := fin_phase (Q := Q) (P := P) (nf ++ fin) late _ rfl fin nf.reverse listed a w hls (fun i hi => by rw [hl i hi, hdn]; simp) (fun i hi => by rcases all_in i hi with h | h <;> simp [h])
      (fun f hf => ⟨lt_of f (.inr hf), fun h => hnd.2.2 f (by simpa using h) f hf rfl, fun h => hnd.2.2 f (late_in f h).1 f hf rfl⟩) hnd.2.1 (fun j hj k hk => ⟨lt_of k (.inl (nf_need j (by simpa using hj) k hk)), by simpa using nf_need j (by simpa using hj) k hk⟩)
      (by simpa using o2) k6 (fun j hj => lt_of j (.inl (by simpa using hj)))
      (by
        have h9 := hfin (fun t => a.tmps.getD t undef) w hSt.below (fun i hi t ht => hSt.at_ i ((hdn i).2 hi) t ht)
        rw [putL_tmps _ a a0 hSt.size hSt.defers hSt.far] at h9
        exact h9)
    rw [hf0] at this
    simpa using this
  | succ fuel ih =>
    intro rem done listed a w hlen hrn hls hl hall hrem hdone hclosed hSt
    by_cases hre : rem = []
    · subst hre
      have hdn : ∀ i, i ∈ done ↔ i ∈ nf := fun i => ⟨hdone i, fun h => by rcases hall i h with h | h; exact h; cases h⟩
      have := fin_phase (Q := Q) (P := P) (nf ++ fin) late _ rfl fin nf.reverse listed a w hls (fun i hi => by rw [hl i hi, hdn]; simp) (fun i hi => by rcases all_in i hi with h | h <;> simp [h])
        (fun f hf => ⟨lt_of f (.inr hf), fun h => hnd.2.2 f (by simpa using h) f hf rfl, fun h => hnd.2.2 f (late_in f h).1 f hf rfl⟩) hnd.2.1 (fun j hj k hk => ⟨lt_of k (.inl (nf_need j (by simpa using hj) k hk)), by simpa using nf_need j (by simpa using hj) k hk⟩)
        (by simpa using o2) k6 (fun j hj => lt_of j (.inl (by simpa using hj)))
        (by
          have h9 := hfin (fun t => a.tmps.getD t undef) w hSt.below (fun i hi t ht => hSt.at_ i ((hdn i).2 hi) t ht)
          rw [putL_tmps _ a a0 hSt.size hSt.defers hSt.far] at h9
          exact h9)
      have e : fin.length = fuel + 1 := by simpa using hlen
      rw [e] at this
      exact this
    · obtain ⟨x0, hx0⟩ := List.exists_mem_of_ne_nil _ hre
      have hno : ∀ i, i < ops.size → i ∉ done → listed.getD i true = false := fun i hi hd => by
        rw [getD_tf hls hi]
        cases e : listed.getD i false with
        | false => rfl
        | true => exact absurd ((hl i hi).1 e) hd
      -- what one operation leaves, taken over
      have step : ∀ (i : Nat) (h1 : i < ops.size) (hind : i ∉ done) (hinf : i ∈ nf) (hirem : i ∈ rem) (hneed : ∀ j ∈ needsAt ops i, j < ops.size ∧ j ∈ done) (v : Value) (w' : World), Below w.heap.size w w' → Φ i v w' →
          wpAny P .any ops Q fuel (listed.setIfInBounds i true) (a.put ops[i].dst v) w' := by
        intro i h1 hind hinf hirem hneed v w' hb hv
        have hget : ops[i]? = some ops[i] := Array.getElem?_eq_getElem h1
        have hdst : dstAt ops i = ops[i].dst := by unfold dstAt; rw [hget]; rfl
        refine ih (rem.erase i) (i :: done) _ _ w' (by rw [List.length_erase_of_mem hirem]; have := List.length_pos_of_mem hirem; omega) (hrn.erase i) (by simpa using hls) (fun k hk => ?_) (fun k hk => ?_) (fun k hk => ?_) (fun k hk => ?_) (fun j hj k hk => ?_) ?_
        · rw [getD_set false (by rw [hls]; exact h1)]
          by_cases e : i = k
          · simp [e]
          · rw [if_neg e, hl k hk]; simp [Ne.symm e]
        · rcases hall k hk with h | h
          · exact .inl (List.mem_cons_of_mem _ h)
          · by_cases e : k = i
            · exact .inl (by rw [e]; exact List.mem_cons_self)
            · exact .inr ((List.mem_erase_of_ne e).2 h)
        · have hk' := List.mem_of_mem_erase hk
          refine ⟨(hrem k hk').1, fun hm => ?_⟩
          rcases List.mem_cons.1 hm with e | hm
          · subst e; exact (List.Nodup.not_mem_erase hrn) hk
          · exact (hrem k hk').2 hm
        · rcases List.mem_cons.1 hk with e | hk
          · rw [e]; exact hinf
          · exact hdone k hk
        · rcases List.mem_cons.1 hj with e | hj
          · subst e; exact List.mem_cons_of_mem _ (hneed k hk).2
          · exact List.mem_cons_of_mem _ (hclosed j hj k hk)
        · have hbt := below_two hSt.below hb
          cases hd : ops[i].dst with
          | none =>
            refine ⟨hSt.size, hSt.defers, hSt.far, fun j hj t ht => ?_, hbt⟩
            rcases List.mem_cons.1 hj with e | hj
            · subst e; rw [hdst, hd] at ht; cases ht
            · exact hst j _ _ _ hb (hSt.at_ j hj t ht)
          | some d =>
            have hdm : d ∈ dstsOf ops nf := List.mem_filterMap.2 ⟨i, hinf, by rw [hdst, hd]⟩
            refine ⟨by simpa [Act.put] using hSt.size, hSt.defers, fun t ht => ?_, fun j hj t ht => ?_, hbt⟩
            · have hne : d ≠ t := fun e => ht (e ▸ hdm)
              simp only [Act.put, Array.getElem?_setIfInBounds]
              rw [if_neg hne]
              exact hSt.far t ht
            · rcases List.mem_cons.1 hj with e | hj
              · subst e
                rw [hdst, hd] at ht
                injection ht with ht
                subst ht
                have hlt : d < a.tmps.size := by rw [hSt.size]; exact hsz d hdm
                have : (a.put (some d) v).tmps.getD d undef = v := by simp [Act.put, Array.getD, hlt]
                rw [this]; exact hv
              · have hjd : j ∈ done := hj
                have hne : d ≠ t := fun e => by
                  subst e
                  have k4' := k4
                  unfold dstsOf at k4'
                  have hji := inj_of_nodup k4' (List.mem_append.2 (.inl (hdone j hjd))) (List.mem_append.2 (.inl hinf)) ht (by rw [hdst, hd])
                  exact hind (hji ▸ hjd)
                have : (a.put (some d) v).tmps.getD t undef = a.tmps.getD t undef := by
                  simp only [Act.put, Array.getD_eq_getD_getElem?, Array.getElem?_setIfInBounds]
                  rw [if_neg hne]
                rw [this]
                exact hst j _ _ _ hb (hSt.at_ j hj t ht)
      by_cases hlt : ∀ x ∈ rem, x ∈ late
      · obtain ⟨y, g1, g2, g3⟩ := first_open (D := done) nf [] o1 (fun j hj => by cases hj) ⟨x0, (hrem x0 hx0).1, (hrem x0 hx0).2⟩
        have gy : y < ops.size := lt_of y (.inl g1)
        have gr : y ∈ rem := by
          rcases hall y g1 with h | h
          · exact absurd h g2
          · exact h
        have gl := hlt y gr
        have gget : ops[y]? = some ops[y] := Array.getElem?_eq_getElem gy
        have gneed : ∀ j ∈ needsAt ops y, j < ops.size ∧ j ∈ done := fun j hj => ⟨lt_of j (.inl (nf_need y g1 j hj)), g3 j hj⟩
        obtain ⟨v, hy, hv⟩ := hlate y gl ops[y] gget a w hSt.below hSt.far (fun j oj t hj hoj ht => by
          have hjn : j ∈ needsAt ops y := by unfold needsAt; rw [gget]; exact hj
          have hdj : dstAt ops j = some t := by unfold dstAt; rw [hoj]; exact ht
          have h9 := hSt.at_ j (gneed j hjn).2 t hdj
          have hlt : t < a.tmps.size := by rw [hSt.size]; exact hsz t (List.mem_filterMap.2 ⟨j, nf_need y g1 j hjn, hdj⟩)
          refine ⟨a.tmps.getD t undef, ?_, h9⟩
          rw [Array.getD_eq_getD_getElem?, Array.getElem?_eq_getElem hlt]
          rfl)
        refine wpAny_first gget (Region.noSelect_spec k8) (fun c a w h => hQ c a _ _ w h) fuel listed a w ?_ (mem_ready'.2 ⟨gy, hno y gy g2, fun j hj => (hl j (gneed j hj).1).2 (gneed j hj).2⟩) hy (step y gy g2 g1 gr gneed v w (Below.refl _ _) hv)
        intro j oj hoj hne hun hnw
        have hj : j < ops.size := (Array.getElem?_eq_some_iff.1 hoj).1
        have hjd : j ∉ done := fun h => by rw [getD_tf hls hj, (hl j hj).2 h] at hun; cases hun
        have hmem : j ∈ late ++ fin := by
          rcases all_in j hj with h | h
          · rcases hall j h with h | h
            · exact absurd h hjd
            · exact List.mem_append.2 (.inl (hlt j h))
          · exact List.mem_append.2 (.inr h)
        have h9 := (late_in y gl).2
        unfold lateB at h9
        rw [gget] at h9
        have h10 := List.all_eq_true.1 h9 j hmem
        simp only [hoj, Bool.or_eq_true, beq_iff_eq, hne, false_or] at h10
        rcases h10 with h10 | h10
        · obtain ⟨e, he, hb⟩ := Array.any_eq_true'.1 h10
          simp only [Bool.and_eq_true, beq_iff_eq] at hb
          exact absurd hb.2 (hnw e he hb.1)
        · exact h10
      obtain ⟨x, hx, hxl⟩ : ∃ x ∈ rem, x ∉ late := by
        have := Classical.not_forall.1 hlt
        obtain ⟨x, hx⟩ := this
        exact ⟨x, Classical.byContradiction fun h => hx (fun h' => absurd h' h), fun h => hx (fun _ => h)⟩
      have hopen : ∃ y ∈ Region.ready .any ops listed, True := by
        obtain ⟨y, h1, h2, h3⟩ := first_open (D := done) nf [] o1 (fun j hj => by cases hj) ⟨x, (hrem x hx).1, (hrem x hx).2⟩
        exact ⟨y, mem_ready'.2 ⟨lt_of y (.inl h1), hno y (lt_of y (.inl h1)) h2, fun j hj => (hl j (lt_of j (.inl (nf_need y h1 j hj)))).2 (h3 j hj)⟩, trivial⟩
      refine ⟨fun e => (by obtain ⟨y, hy, _⟩ := hopen; rw [e] at hy; cases hy), fun i hi => ?_⟩
      obtain ⟨h1, h2, h3⟩ := mem_ready'.1 hi
      have hneed : ∀ j ∈ needsAt ops i, j < ops.size ∧ j ∈ done := fun j hj => by
        have h10 := h3 j hj
        have h11 : j < ops.size := by
          rcases Nat.lt_or_ge j ops.size with h | h
          · exact h
          · simp [Array.getD, hls, Nat.not_lt.2 h] at h10
        exact ⟨h11, (hl j h11).1 h10⟩
      have hind : i ∉ done := fun h => by
        rw [getD_tf hls h1, (hl i h1).2 h] at h2; cases h2
      have hinf : i ∈ nf := by
        rcases all_in i h1 with h | h
        · exact h
        · exfalso
          have h6 : x ∈ look (ancs ops (nf ++ fin) []) i := finB_all fin nf.reverse k6 i h x (by simpa using (hrem x hx).1) hxl
          obtain ⟨l, h7, h8⟩ := look_mem h6
          have h9 := ancs_good (S := fun j => j < ops.size ∧ j ∈ done) (fun j hj k hk => ⟨lt_of k (.inl (hdone k (hclosed j hj.2 k hk))), hclosed j hj.2 k hk⟩) (nf ++ fin) [] (fun _ _ hm => by cases hm) i l h7 hneed x h8
          exact (hrem x hx).2 h9.2
      have hirem : i ∈ rem := by
        rcases hall i hinf with h | h
        · exact absurd h hind
        · exact h
      have hget : ops[i]? = some ops[i] := Array.getElem?_eq_getElem h1
      have hdst : dstAt ops i = ops[i].dst := by unfold dstAt; rw [hget]; rfl
      have h := hop i hinf ops[i] hget a w hSt.below hSt.far
        (fun j oj t hj hoj ht => by
          have hjn : j ∈ needsAt ops i := by unfold needsAt; rw [hget]; exact hj
          have hdj : dstAt ops j = some t := by unfold dstAt; rw [hoj]; exact ht
          have h9 := hSt.at_ j (hneed j hjn).2 t hdj
          have hlt : t < a.tmps.size := by rw [hSt.size]; exact hsz t (List.mem_filterMap.2 ⟨j, nf_need i hinf j hjn, hdj⟩)
          refine ⟨a.tmps.getD t undef, ?_, h9⟩
          rw [Array.getD_eq_getD_getElem?, Array.getElem?_eq_getElem hlt]
          rfl)
        (wpAny P .any ops Q fuel (listed.setIfInBounds i true)) (fun v w' hb hv => by
          exact step i h1 hind hinf hirem hneed v w' hb hv)
      unfold wpOp
      rw [hget]
      simp only
      split
      · rename_i hw
        rw [if_pos hw] at h
        exact .inl h
      · rename_i hw
        rw [if_neg hw] at h
        exact h
/-- **THE LAW**: a region that draws its order. nf: the operations that may come up in any order; fin: the last ones, in their order. -/
theorem region_stable {id : Nat} (hm : P.follows .mixedOrders = true) (nf fin late : List Nat) (a0 : Act) (w : World) (Φ : Nat → Value → World → Prop) (hchk : stableB ops nf fin late = true) (hsz : ∀ t ∈ dstsOf ops nf, t < a0.tmps.size)
    (hst : ∀ i v w w', Below w.heap.size w w' → Φ i v w → Φ i v w')
    (hop : ∀ i ∈ nf, ∀ o, ops[i]? = some o → OpOK P ops Q a0 w.drew Φ (dstsOf ops nf) i o)
    (hQ : ∀ c (a : Act) d v w, Q (.panic c) (a.put d v) w → Q (.panic c) a w)
    (hlate : ∀ i ∈ late, ∀ o, ops[i]? = some o → LateOK P ops a0 w.drew Φ (dstsOf ops nf) i o)
    (hfin : ∀ (vs : Tmp → Value) w', Below w.drew.heap.size w.drew w' → (∀ i ∈ nf, ∀ t, dstAt ops i = some t → Φ i (vs t) w') → wpList P ops Q (fin.filterMap (fun i => ops[i]?)) (putL a0 ((dstsOf ops nf).map fun t => (t, vs t))) w') :
    (Code.region id ops true).wp P Q a0 w := by
  refine wp_region_any hm ?_
  have hc := hchk
  simp only [stableB, Bool.and_eq_true, decide_eq_true_eq] at hc
  obtain ⟨⟨⟨⟨⟨⟨⟨⟨k8, k9⟩, k1⟩, k2⟩, k3⟩, k4⟩, k5⟩, k6⟩, k7⟩ := hc
  have hlen : nf.length + fin.length = ops.size := by
    have h1 : (nf ++ fin).Perm (List.range ops.size) := by
      refine (List.perm_ext_iff_of_nodup k3 List.nodup_range).2 fun i => ?_
      rw [List.mem_range]
      exact ⟨fun h => by simpa using List.all_eq_true.1 k2 i h, fun h => by simpa using List.all_eq_true.1 k1 i (List.mem_range.2 h)⟩
    have := h1.length_eq
    simpa using this
  refine phase nf fin late a0 w.drew Φ hchk hsz hst hop hQ hlate hfin ops.size nf [] _ a0 w.drew hlen (List.nodup_append.1 k3).1 (by simp) (fun i hi => ?_) (fun i hi => .inr hi) (fun i hi => ⟨hi, by simp⟩) (fun i hi => by cases hi) (fun j hj => by cases hj) ⟨rfl, rfl, fun _ _ => rfl, fun j hj => (by cases hj), Below.refl _ _⟩
  simp [Array.getD, hi]
theorem eval_of {a a0 : Act} {t : Tmp} {v : Value} (h : a.tmps[t]? = a0.tmps[t]?) (h0 : a0.tmps[t]? = some v) : a.eval (.tmp t) = v := by
  rw [h0] at h
  simp [Act.eval, Array.getD_eq_getD_getElem?, h]
theorem eval_at {a : Act} {t : Tmp} {v : Value} (h : a.tmps.getD t undef = v) : a.eval (.tmp t) = v := h
end
end Stab
end

end Go.Proofs.Ytminfgfigpiajaa.E

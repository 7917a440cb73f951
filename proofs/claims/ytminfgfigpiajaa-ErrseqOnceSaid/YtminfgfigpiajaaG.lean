/- What the readings of the rows' arguments say: a reading of a type is a value of the kind that the walks speak of. Plain lemmas; no program in sight. -/
import Derived.Test.YtminfgfigpiajaaVMoreWGuard
import Derived.Deep.Slices
import Derived.ChangeArms
import Derived.WideShapes
namespace Go.Proofs.Ytminfgfigpiajaa.Gate
open Go.ChangeShapes Go.WideShapes Go.Proofs.YtminfgfigpiajaaW.PrintWords
section
variable {H : Type} {enc : TypeId × Value → H} {P : Program} {w : World} {base : Nat} {spare : Nat → Bool} {held : Bool} {t e q : TypeId} {α β : Type}

/-- With this fuel, whatever reads as of type t is a value of the kind k, of which Q holds. -/
def Opens (enc : TypeId × Value → H) (P : Program) (w : World) (base : Nat) (spare : Nat → Bool) (held : Bool) (k : Kd α) (Q : α → Prop) (t : TypeId) (n : Nat) : Prop :=
  ∀ cs x, DataW.trod enc P w base spare held n t cs = some x → ∃ a, k.K w a cs ∧ Q a

theorem opens_int {k : IntKind} (ht : P.underlying t = some (.int k)) (n : Nat) : Opens enc P w base spare held (Kd.int k) (fun x => (Lit.int k x).wf = true) t n := by
  intro cs x h
  obtain ⟨a, rfl, _, hw⟩ := DataW.trod_int ht h
  exact ⟨a, rfl, hw⟩
theorem opens_bool (ht : P.underlying t = some .bool) (n : Nat) : Opens enc P w base spare held Kd.bool (fun _ => True) t n := by
  intro cs x h
  obtain ⟨a, rfl, _⟩ := DataW.trod_bool ht h
  exact ⟨a, rfl, trivial⟩
theorem opens_weaken {k : Kd α} {Q Q' : α → Prop} {n : Nat} (h : Opens enc P w base spare held k Q t n) (hq : ∀ a, Q a → Q' a) : Opens enc P w base spare held k Q' t n := by
  intro cs x hx
  obtain ⟨a, h1, h2⟩ := h cs x hx
  exact ⟨a, h1, hq a h2⟩
theorem opens_iso {d : Kd α} {Q : α → Prop} {n : Nat} (f : β → α) (g : α → β) (hg : ∀ a, f (g a) = a) (h : Opens enc P w base spare held d Q t n) : Opens enc P w base spare held (Kd.iso d f) (fun b => Q (f b)) t n := by
  intro cs x hx
  obtain ⟨a, h1, h2⟩ := h cs x hx
  exact ⟨g a, by show d.K w (f (g a)) cs; rw [hg]; exact h1, by show Q (f (g a)); rw [hg]; exact h2⟩
/-- A list out of what each place has. -/
theorem pick_list (n : Nat) (p : Nat → α → Prop) (h : ∀ i, i < n → ∃ a, p i a) : ∃ l : List α, l.length = n ∧ ∀ i a, l[i]? = some a → p i a := by
  induction n with
  | zero => exact ⟨[], rfl, fun i a h => by simp at h⟩
  | succ n ih =>
    obtain ⟨l, hl, hp⟩ := ih (fun i hi => h i (by omega))
    obtain ⟨a, ha⟩ := h n (by omega)
    refine ⟨l ++ [a], by simp [hl], fun i b hb => ?_⟩
    rcases Nat.lt_or_ge i l.length with hi | hi
    · rw [List.getElem?_append_left hi] at hb; exact hp i b hb
    · rw [List.getElem?_append_right hi] at hb
      rcases Nat.eq_zero_or_pos (i - l.length) with h0 | h0
      · rw [h0] at hb
        simp at hb
        subst hb
        rw [show i = n by omega]; exact ha
      · rw [List.getElem?_eq_none (by simp; omega)] at hb
        cases hb
theorem opens_slice {d : Kd α} {Q : α → Prop} {n : Nat} (ht : P.underlying t = some (.slice e)) (hz : d.sz = P.cellsOf e) (h : ∀ m, m < n → Opens enc P w base spare held d Q e m) :
    Opens enc P w base spare held (Kd.slice q d) (fun l => l.length ≤ maxLen ∧ ∀ x ∈ l, Q x) t n := by
  intro cs x hx
  rcases DataW.trod_slice ht hx with ⟨rfl, _⟩ | ⟨a, len, cap, elems, rest, m, hm, rfl, rfl, hb, hl, hc, hlen, hel, hsp, hns⟩
  · exact ⟨[], ⟨none, 0, rfl, Nat.le_refl _, rfl, by simp, fun h => absurd h (by simp)⟩, by simp, fun x hx => by simp at hx⟩
  · obtain ⟨l, h1, h2⟩ := pick_list len (fun i b => ∃ c, w.cells? base (a.add (i * P.cellsOf e)) (P.cellsOf e) = some c ∧ d.K w b c ∧ Q b) (fun i hi => by
      have he := hel i hi
      have hs : elems[i]? = some (elems[i]'(by omega)) := List.getElem?_eq_getElem (by omega)
      rw [hs] at he
      obtain ⟨c, hc1, hc2⟩ := Option.bind_eq_some_iff.1 he
      obtain ⟨b, hb1, hb2⟩ := h m (by omega) c _ hc2
      exact ⟨b, c, hc1, hb1, hb2⟩)
    refine ⟨l, ⟨some a, cap, by rw [h1], by omega, rfl, by unfold maxLen at hc; omega, fun _ => ⟨a, rfl, fun j p hj => ?_⟩⟩, by omega, fun x hx => ?_⟩
    · obtain ⟨c, hc1, hk, _⟩ := h2 j p hj
      obtain ⟨_, hcl, hat⟩ := World.cells?_some hc1
      refine ⟨c, by rw [hcl, hz], hk, fun i u hu => ?_⟩
      have hi : i < P.cellsOf e := by
        have := (List.getElem?_eq_some_iff.1 hu).1
        omega
      have := hat i hi
      rw [hu] at this
      rw [hz, ← this, Go.Deep.add_add]
    · obtain ⟨i, hi, rfl⟩ := List.getElem_of_mem hx
      obtain ⟨c, _, _, hq⟩ := h2 i _ (List.getElem?_eq_getElem hi)
      exact hq

/-- The fields fs, from the place off on. -/
def OpensFrom (enc : TypeId × Value → H) (P : Program) (w : World) (base : Nat) (spare : Nat → Bool) (held : Bool) (k : Kd α) (Q : α → Prop) (fs : List Field) (off n : Nat) : Prop :=
  ∀ cs : List Value, cs.length = off + k.sz → (∀ f ∈ fs, ∃ x, DataW.trod enc P w base spare held n f.type (List.take (P.cellsOf f.type) (List.drop f.offset cs)) = some x) → ∃ a, k.K w a (List.drop off cs) ∧ Q a
theorem from_last {k : Kd α} {Q : α → Prop} {n : Nat} {f : Field} {off : Nat} (ho : f.offset = off) (hz : P.cellsOf f.type = k.sz) (h : Opens enc P w base spare held k Q f.type n) : OpensFrom enc P w base spare held k Q [f] off n := by
  subst ho
  intro cs hl hf
  obtain ⟨x, hx⟩ := hf f (by simp)
  rw [hz, List.take_of_length_le (by rw [List.length_drop]; omega)] at hx
  exact h _ _ hx
theorem from_cons {a : Kd α} {b : Kd β} {Qa : α → Prop} {Qb : β → Prop} {n : Nat} {f : Field} {fs : List Field} {off : Nat} (ho : f.offset = off) (hz : P.cellsOf f.type = a.sz) (h : Opens enc P w base spare held a Qa f.type n)
    (hb : OpensFrom enc P w base spare held b Qb fs (off + a.sz) n) : OpensFrom enc P w base spare held (Kd.pair a b) (fun x => Qa x.1 ∧ Qb x.2) (f :: fs) off n := by
  subst ho
  intro cs hl hf
  have hl' : cs.length = f.offset + (a.sz + b.sz) := hl
  obtain ⟨x, hx⟩ := hf f (by simp)
  rw [hz] at hx
  obtain ⟨u, hu, qu⟩ := h _ _ hx
  obtain ⟨v, hv, qv⟩ := hb cs (by omega) (fun g hg => hf g (by simp [hg]))
  refine ⟨(u, v), ⟨_, _, ?_, hu, hv⟩, qu, qv⟩
  rw [← List.drop_drop, List.take_append_drop]
theorem opens_struct {k : Kd α} {Q : α → Prop} {n : Nat} {fs : Array Field} (ht : P.underlying t = some (.struct fs)) (hz : P.cellsOf t = k.sz) (h : ∀ m, m < n → OpensFrom enc P w base spare held k Q fs.toList 0 m) : Opens enc P w base spare held k Q t n := by
  intro cs x hx
  obtain ⟨xs, m, rfl, _, hl, hxs, hf⟩ := DataW.trod_struct ht hx
  obtain ⟨a, h1, h2⟩ := h m (by omega) cs (by rw [hl, hz]; omega) (fun f hf' => by
    obtain ⟨i, hi, rfl⟩ := List.getElem_of_mem hf'
    have hi' : i < fs.size := by simpa using hi
    have h1 := hf i fs[i] (Array.getElem?_eq_getElem hi')
    rw [Array.getElem_toList]
    rw [h1]
    exact ⟨xs[i]'(by omega), List.getElem?_eq_getElem (by omega)⟩)
  exact ⟨a, by simpa using h1, h2⟩
end
end Go.Proofs.Ytminfgfigpiajaa.Gate

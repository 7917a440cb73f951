/- Lists of intervals over the whole numbers: valid lists, their members, that a valid list is known by its members; no program in sight. -/
import Derived.Test.YtkgknibciclmjaaI0
set_option linter.unusedSimpArgs false
set_option linter.unusedVariables false
namespace Go.Proofs.Ytkgknibciclmjaa.I
open Go.RowKit Go.Proofs.YtkgknibciclmjaaW.PrintWords Go.Proofs.YtkgknibciclmjaaW.PrintLast

theorem s28_ext {x y : S28} (h0 : x.f0 = y.f0) (h1 : x.f1 = y.f1) : x = y := by
  cases x; cases y; simp_all

def mem (l : List S28) (n : Int) : Prop := ∃ x ∈ l, x.f0 ≤ n ∧ n < x.f1
theorem mem_nil (n : Int) : ¬ mem [] n := fun ⟨_, h, _⟩ => by cases h
theorem mem_cons (x : S28) (l : List S28) (n : Int) : mem (x :: l) n ↔ (x.f0 ≤ n ∧ n < x.f1) ∨ mem l n := by
  constructor
  · rintro ⟨y, hy, h⟩
    rcases List.mem_cons.1 hy with rfl | hy
    · exact .inl h
    · exact .inr ⟨y, hy, h⟩
  · rintro (h | ⟨y, hy, h⟩)
    · exact ⟨x, List.mem_cons_self, h⟩
    · exact ⟨y, List.mem_cons_of_mem _ hy, h⟩
theorem mem_append (a b : List S28) (n : Int) : mem (a ++ b) n ↔ mem a n ∨ mem b n := by
  constructor
  · rintro ⟨y, hy, h⟩
    rcases List.mem_append.1 hy with hy | hy
    · exact .inl ⟨y, hy, h⟩
    · exact .inr ⟨y, hy, h⟩
  · rintro (⟨y, hy, h⟩ | ⟨y, hy, h⟩)
    · exact ⟨y, List.mem_append_left _ hy, h⟩
    · exact ⟨y, List.mem_append_right _ hy, h⟩
theorem mem_one (x : S28) (n : Int) : mem [x] n ↔ (x.f0 ≤ n ∧ n < x.f1) := by
  rw [mem_cons]
  exact ⟨fun h => h.resolve_right (mem_nil n), .inl⟩

def Val : List S28 → Prop
  | [] => True
  | x :: xs => x.f0 < x.f1 ∧ (∀ y ∈ xs, x.f1 < y.f0) ∧ Val xs
theorem val_nil : Val [] := trivial
theorem val_one (a b : Int) (h : a < b) : Val [⟨a, b⟩] := ⟨h, (fun _ hy => by cases hy), trivial⟩
theorem Val.pos {l : List S28} (h : Val l) : ∀ x ∈ l, x.f0 < x.f1 := by
  induction l with
  | nil => intro x hx; cases hx
  | cons y l ih =>
    intro x hx
    rcases List.mem_cons.1 hx with rfl | hx
    · exact h.1
    · exact ih h.2.2 x hx
theorem val_snoc (l : List S28) (y : S28) : Val (l ++ [y]) ↔ Val l ∧ y.f0 < y.f1 ∧ ∀ x ∈ l, x.f1 < y.f0 := by
  induction l with
  | nil => exact ⟨fun h => ⟨trivial, h.1, fun _ hx => by cases hx⟩, fun h => ⟨h.2.1, (fun _ hx => by cases hx), trivial⟩⟩
  | cons x l ih =>
    constructor
    · rintro ⟨h0, h1, h2⟩
      obtain ⟨h3, h4, h5⟩ := ih.1 h2
      refine ⟨⟨h0, fun z hz => h1 z (List.mem_append_left _ hz), h3⟩, h4, fun z hz => ?_⟩
      rcases List.mem_cons.1 hz with rfl | hz
      · exact h1 y (List.mem_append_right _ (List.mem_cons_self))
      · exact h5 z hz
    · rintro ⟨⟨h0, h1, h2⟩, h3, h4⟩
      refine ⟨h0, fun z hz => ?_, ih.2 ⟨h2, h3, fun z hz => h4 z (List.mem_cons_of_mem _ hz)⟩⟩
      rcases List.mem_append.1 hz with hz | hz
      · exact h1 z hz
      · rw [List.mem_singleton.1 hz]
        exact h4 x List.mem_cons_self
/-- Behind the first interval's end. -/
theorem mem_after {x : S28} {l : List S28} (h : Val (x :: l)) {n : Int} (hn : mem l n) : x.f1 < n := by
  obtain ⟨y, hy, h0, h1⟩ := hn
  have := h.2.1 y hy
  omega
theorem val_unique (a b : List S28) (ha : Val a) (hb : Val b) (h : ∀ n, mem a n ↔ mem b n) : a = b := by
  induction a generalizing b with
  | nil =>
    cases b with
    | nil => rfl
    | cons y ys => exact absurd ((h y.f0).2 ⟨y, List.mem_cons_self, Int.le_refl _, hb.1⟩) (mem_nil _)
  | cons x xs ih =>
    cases b with
    | nil => exact absurd ((h x.f0).1 ⟨x, List.mem_cons_self, Int.le_refl _, ha.1⟩) (mem_nil _)
    | cons y ys =>
      have hx := ha.1
      have hy := hb.1
      have e0 : x.f0 = y.f0 := by
        have h1 := (mem_cons y ys x.f0).1 ((h x.f0).1 ((mem_cons x xs _).2 (.inl ⟨Int.le_refl _, hx⟩)))
        have h2 := (mem_cons x xs y.f0).1 ((h y.f0).2 ((mem_cons y ys _).2 (.inl ⟨Int.le_refl _, hy⟩)))
        rcases h1 with h1 | h1
        · rcases h2 with h2 | h2
          · omega
          · have := mem_after ha h2; omega
        · have := mem_after hb h1
          rcases h2 with h2 | h2
          · omega
          · have := mem_after ha h2; omega
      have e1 : x.f1 = y.f1 := by
        rcases Int.lt_trichotomy x.f1 y.f1 with hlt | he | hlt
        · have h1 := (mem_cons x xs x.f1).1 ((h x.f1).2 ((mem_cons y ys _).2 (.inl ⟨by omega, hlt⟩)))
          rcases h1 with h1 | h1
          · omega
          · have := mem_after ha h1; omega
        · exact he
        · have h1 := (mem_cons y ys y.f1).1 ((h y.f1).1 ((mem_cons x xs _).2 (.inl ⟨by omega, hlt⟩)))
          rcases h1 with h1 | h1
          · omega
          · have := mem_after hb h1; omega
      obtain rfl := s28_ext e0 e1
      have : xs = ys := ih ys ha.2.2 hb.2.2 (fun n => by
        constructor
        · intro hn
          have h1 := mem_after ha hn
          rcases (mem_cons x ys n).1 ((h n).1 ((mem_cons x xs n).2 (.inr hn))) with h2 | h2
          · omega
          · exact h2
        · intro hn
          have h1 := mem_after hb hn
          rcases (mem_cons x xs n).1 ((h n).2 ((mem_cons x ys n).2 (.inr hn))) with h2 | h2
          · omega
          · exact h2)
      rw [this]

/-- The first error of a list behind an interval that ends at p. -/
def chk : Option Int → List S28 → Int
  | _, [] => 0
  | p, x :: xs => if x.f0 ≥ x.f1 then 2 else if p.any (fun e => decide (x.f0 ≤ e)) then 10 else chk (some x.f1) xs
theorem chk_after (e : Int) (l : List S28) : chk (some e) l = 0 ↔ Val l ∧ ∀ x ∈ l, e < x.f0 := by
  induction l generalizing e with
  | nil => exact ⟨fun _ => ⟨trivial, fun _ h => by cases h⟩, fun _ => rfl⟩
  | cons x xs ih =>
    simp only [chk]
    by_cases h0 : x.f0 ≥ x.f1
    · rw [if_pos h0]
      exact ⟨fun h => by omega, fun h => by have := h.1.1; omega⟩
    · rw [if_neg h0]
      by_cases h1 : x.f0 ≤ e
      · rw [if_pos (by simpa using h1)]
        exact ⟨fun h => by omega, fun h => by have := h.2 x List.mem_cons_self; omega⟩
      · rw [if_neg (by simpa using h1), ih]
        constructor
        · rintro ⟨h2, h3⟩
          refine ⟨⟨by omega, h3, h2⟩, fun z hz => ?_⟩
          rcases List.mem_cons.1 hz with rfl | hz
          · omega
          · have := h3 z hz; omega
        · rintro ⟨⟨h2, h3, h4⟩, h5⟩
          exact ⟨h4, h3⟩
theorem chk_val (l : List S28) : chk none l = 0 ↔ Val l := by
  cases l with
  | nil => exact ⟨fun _ => trivial, fun _ => rfl⟩
  | cons x xs =>
    simp only [chk]
    by_cases h0 : x.f0 ≥ x.f1
    · rw [if_pos h0]
      exact ⟨fun h => by omega, fun h => by have := h.1; omega⟩
    · rw [if_neg h0, if_neg (by simp), chk_after]
      exact ⟨fun h => ⟨by omega, h.2, h.1⟩, fun h => ⟨h.2.2, h.2.1⟩⟩

theorem Ev.next {α : Type} {g : Nat → Option α} {r : α} (h : Ev (fun k => g (k + 1)) r) : Ev g r := Ev.step (fun _ => rfl) h
theorem Ev.yes {α : Type} {c : Prop} [Decidable c] {f g : Nat → Option α} {r : α} (hc : c) (h : Ev f r) : Ev (fun k => if c then f k else g k) r := by
  simpa only [if_pos hc] using h
theorem Ev.no {α : Type} {c : Prop} [Decidable c] {f g : Nat → Option α} {r : α} (hc : ¬ c) (h : Ev g r) : Ev (fun k => if c then f k else g k) r := by
  simpa only [if_neg hc] using h
/-! Places in lists -/
theorem rd_mid (pre : List S28) (x : S28) (post : List S28) : rd_T28 (pre ++ x :: post) (pre.length : Int) = x := by
  simp [rd_T28]
theorem rd_mid' {l pre post : List S28} {x : S28} {i : Int} (h : l = pre ++ x :: post) (hi : i = (pre.length : Int)) : rd_T28 l i = x := by
  rw [h, hi]; exact rd_mid pre x post
theorem rd_head (x : S28) (post : List S28) : rd_T28 (x :: post) 0 = x := rfl
theorem wrap_next {i : Int} (h0 : 0 ≤ i) (h : i < 9223372036854775807) : wrap64 (i + 1) = i + 1 := by unfold wrap64; omega
theorem wrap_prev {i : Int} (h0 : 0 ≤ i) (h : i ≤ 9223372036854775807) : wrap64 (i - 1) = i - 1 := by unfold wrap64; omega
theorem mx_eq (a b : Int) : mx a b = max a b := by unfold mx; omega
theorem mn_eq (a b : Int) : mn a b = min a b := by unfold mn; omega

end Go.Proofs.Ytkgknibciclmjaa.I

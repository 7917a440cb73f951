/- Union: the lists' merge, over lists alone. -/
import Derived.Test.YtkgknibciclmjaaIAC
import Derived.Test.YtkgknibciclmjaaI8
import Derived.Test.YtkgknibciclmjaaI7
import Derived.Test.YtkgknibciclmjaaI9
set_option linter.unusedSimpArgs false
set_option linter.unusedVariables false
namespace Go.Proofs.Ytkgknibciclmjaa.I
open Go.RowKit Go.Proofs.YtkgknibciclmjaaW.PrintWords Go.Proofs.YtkgknibciclmjaaW.PrintLast

theorem both_ev (a b : List S28) (ha : a.length ≤ maxLen) (hb : b.length ≤ maxLen) : Ev (fun k => interval_both.f k a b) (if chk none a = 0 then chk none b else chk none a) := by
  refine Ev.bind (f := fun k t => if t = 0 then (interval_Check.f k b).bind fun t => some t else some t) (check_ev a ha) ?_
  by_cases h : chk none a = 0
  · simp only [if_pos h]
    exact Ev.bind (f := fun _ t => some t) (check_ev b hb) (Ev.now _)
  · simp only [if_neg h]
    exact Ev.now _
theorem put_ok (out : List S28) (a b : Int) (hv : Val out) (hab : a < b) (hle : ∀ y ∈ out, y.f0 ≤ a) (hlen : out.length < 8796093022208) :
    ∃ r, interval_put.f out a b = some r ∧ Val r ∧ (∀ n, mem r n ↔ mem out n ∨ (a ≤ n ∧ n < b)) ∧ (∀ y ∈ r, y.f0 ≤ a) ∧ r.length ≤ out.length + 1 := by
  rcases List.eq_nil_or_concat out with rfl | ⟨pre, y, rfl⟩
  · refine ⟨[⟨a, b⟩], ?_, val_one a b hab, fun n => ?_, fun y hy => ?_, by simp⟩
    · unfold interval_put.f
      rw [if_neg (by simp), if_pos (by simp)]
      rfl
    · rw [mem_one]
      exact ⟨.inr, fun h => h.resolve_left (mem_nil n)⟩
    · rw [List.mem_singleton.1 hy]
      exact Int.le_refl a
  · rw [List.concat_eq_append] at hv hle hlen ⊢
    have hl : ((pre ++ [y]).length : Int) = (pre.length : Int) + 1 := by simp
    have hl' : (pre ++ [y]).length = pre.length + 1 := by simp
    have hw : wrap64 (((pre ++ [y]).length : Int) - 1) = (pre.length : Int) := by rw [wrap_prev (by omega) (by omega)]; omega
    have hr : rd_T28 (pre ++ [y]) (pre.length : Int) = y := rd_mid pre y []
    obtain ⟨v0, v1, v2⟩ := (val_snoc pre y).1 hv
    have hya := hle y (by simp)
    unfold interval_put.f
    rw [if_pos (by omega), hw, if_pos (by omega), if_pos (by omega), hr]
    by_cases c : a ≤ y.f1
    · rw [if_pos c]
      have hset : (pre ++ [y]).set (pre.length : Int).toNat (⟨y.f0, mx y.f1 b⟩ : S28) = pre ++ [⟨y.f0, mx y.f1 b⟩] := by
        simp
      rw [hset, mx_eq]
      refine ⟨_, rfl, (val_snoc _ _).2 ⟨v0, by show y.f0 < max y.f1 b; omega, v2⟩, fun n => ?_, fun z hz => ?_, by simp⟩
      · rw [mem_append, mem_append, mem_one, mem_one]
        show mem pre n ∨ y.f0 ≤ n ∧ n < max y.f1 b ↔ (mem pre n ∨ y.f0 ≤ n ∧ n < y.f1) ∨ a ≤ n ∧ n < b
        constructor
        · rintro (h | h)
          · exact .inl (.inl h)
          · by_cases hn : n < y.f1
            · exact .inl (.inr ⟨h.1, hn⟩)
            · exact .inr (by omega)
        · rintro ((h | h) | h)
          · exact .inl h
          · exact .inr (by omega)
          · exact .inr (by omega)
      · rcases List.mem_append.1 hz with hz | hz
        · exact hle z (List.mem_append_left _ hz)
        · rw [List.mem_singleton.1 hz]; exact hya
    · rw [if_neg c, if_pos hlen]
      refine ⟨_, rfl, (val_snoc _ _).2 ⟨hv, hab, fun z hz => ?_⟩, fun n => by rw [mem_append, mem_one], fun z hz => ?_, by simp⟩
      · show z.f1 < a
        rcases List.mem_append.1 hz with hz | hz
        · have := v2 z hz; omega
        · rw [List.mem_singleton.1 hz]; omega
      · rcases List.mem_append.1 hz with hz | hz
        · exact hle z hz
        · rw [List.mem_singleton.1 hz]; exact Int.le_refl a
theorem union_loop (d : Nat) : ∀ (a b out : List S28), a.length + b.length = d → Val a → Val b → Val out → (∀ y ∈ out, ∀ z ∈ a, y.f0 ≤ z.f0) → (∀ y ∈ out, ∀ z ∈ b, y.f0 ≤ z.f0) → out.length + d < 8796093022208 →
    ∃ r, Ev (fun k => interval_Union.l0 k a b out) (r, 0) ∧ Val r ∧ (∀ n, mem r n ↔ mem out n ∨ mem a n ∨ mem b n) ∧ r.length ≤ out.length + d := by
  induction d with
  | zero =>
    intro a b out hd ha hb ho h1 h2 hl
    obtain rfl : a = [] := List.length_eq_zero_iff.1 (by omega)
    obtain rfl : b = [] := List.length_eq_zero_iff.1 (by omega)
    refine ⟨out, Ev.step (f := fun k => interval_Union.j1 k [] [] out false) (fun k => ?_) (Ev.step (f := fun _ => some (out, 0)) (fun k => ?_) (Ev.now _)), ho, fun n => ?_, by omega⟩
    · simp only [interval_Union.l0]; rw [if_neg (by simp)]; rfl
    · simp only [interval_Union.j1]; rw [if_neg (by simp)]
    · exact ⟨.inl, fun h => h.elim id (fun h => h.elim (fun h => absurd h (mem_nil n)) (fun h => absurd h (mem_nil n)))⟩
  | succ d ih =>
    intro a b out hd ha hb ho h1 h2 hl
    -- a step that takes the first of a
    have stepA : ∀ x xs, a = x :: xs → (∀ z ∈ b, x.f0 ≤ z.f0) → ∃ r, Ev (fun k => interval_Union.j2 k a b out true) (r, 0) ∧ Val r ∧ (∀ n, mem r n ↔ mem out n ∨ mem a n ∨ mem b n) ∧ r.length ≤ out.length + (d + 1) := by
      rintro x xs rfl hx
      obtain ⟨o2, e2, v2, m2, l2, n2⟩ := put_ok out x.f0 x.f1 ho ha.1 (fun y hy => h1 y hy x List.mem_cons_self) (by omega)
      obtain ⟨r, hr, vr, mr, nr⟩ := ih xs b o2 (by simp at hd; omega) ha.2.2 hb v2 (fun y hy z hz => by have := l2 y hy; have := ha.2.1 z hz; have := ha.1; omega) (fun y hy z hz => by have := l2 y hy; have := hx z hz; omega) (by omega)
      refine ⟨r, Ev.step (fun k => ?_) hr, vr, fun n => ?_, by omega⟩
      · simp only [interval_Union.j2]
        rw [if_pos trivial, if_pos (by simp <;> omega), rd_head, e2]
        simp only [Option.bind_some]
        rw [if_pos (by simp <;> omega)]
        rfl
      · rw [mr, m2, mem_cons]
        constructor
        · rintro ((h | h) | h | h)
          · exact .inl h
          · exact .inr (.inl (.inl h))
          · exact .inr (.inl (.inr h))
          · exact .inr (.inr h)
        · rintro (h | (h | h) | h)
          · exact .inl (.inl h)
          · exact .inl (.inr h)
          · exact .inr (.inl h)
          · exact .inr (.inr h)
    have stepB : ∀ x xs, b = x :: xs → (∀ z ∈ a, x.f0 ≤ z.f0) → ∃ r, Ev (fun k => interval_Union.j2 k a b out false) (r, 0) ∧ Val r ∧ (∀ n, mem r n ↔ mem out n ∨ mem a n ∨ mem b n) ∧ r.length ≤ out.length + (d + 1) := by
      rintro x xs rfl hx
      obtain ⟨o2, e2, v2, m2, l2, n2⟩ := put_ok out x.f0 x.f1 ho hb.1 (fun y hy => h2 y hy x List.mem_cons_self) (by omega)
      obtain ⟨r, hr, vr, mr, nr⟩ := ih a xs o2 (by simp at hd; omega) ha hb.2.2 v2 (fun y hy z hz => by have := l2 y hy; have := hx z hz; omega) (fun y hy z hz => by have := l2 y hy; have := hb.2.1 z hz; have := hb.1; omega) (by omega)
      refine ⟨r, Ev.step (fun k => ?_) hr, vr, fun n => ?_, by omega⟩
      · simp only [interval_Union.j2]
        rw [if_neg (by simp), if_pos (by simp <;> omega), rd_head, e2]
        simp only [Option.bind_some]
        rw [if_pos (by simp <;> omega)]
        rfl
      · rw [mr, m2, mem_cons]
        constructor
        · rintro ((h | h) | h | h)
          · exact .inl h
          · exact .inr (.inr (.inl h))
          · exact .inr (.inl h)
          · exact .inr (.inr (.inr h))
        · rintro (h | h | (h | h))
          · exact .inl (.inl h)
          · exact .inr (.inl h)
          · exact .inl (.inr h)
          · exact .inr (.inr h)
    have low : ∀ (x : S28) (xs : List S28), Val (x :: xs) → ∀ z ∈ x :: xs, x.f0 ≤ z.f0 := by
      intro x xs hx z hz
      rcases List.mem_cons.1 hz with rfl | hz
      · exact Int.le_refl _
      · have := hx.2.1 z hz; have := hx.1; omega
    cases a with
    | nil =>
      cases b with
      | nil => simp at hd
      | cons y ys =>
        obtain ⟨r, hr, rest⟩ := stepB y ys rfl (fun z hz => by cases hz)
        refine ⟨r, Ev.step (f := fun k => interval_Union.j1 k [] (y :: ys) out true) (fun k => ?_) (Ev.step (fun k => ?_) hr), rest⟩
        · simp only [interval_Union.l0]; rw [if_neg (by simp), decide_eq_true (show (((y :: ys).length : Nat) : Int) > 0 by simp <;> omega)]
        · simp only [interval_Union.j1]; rw [if_pos trivial, if_neg (by simp <;> omega), if_neg (by simp)]
    | cons x xs =>
      cases b with
      | nil =>
        obtain ⟨r, hr, rest⟩ := stepA x xs rfl (fun z hz => by cases hz)
        refine ⟨r, Ev.step (f := fun k => interval_Union.j1 k (x :: xs) [] out true) (fun k => ?_) (Ev.step (fun k => ?_) hr), rest⟩
        · simp only [interval_Union.l0]; rw [if_pos (by simp <;> omega)]
        · simp only [interval_Union.j1]; rw [if_pos trivial, if_pos (by simp)]
      | cons y ys =>
        by_cases c : x.f0 ≤ y.f0
        · obtain ⟨r, hr, rest⟩ := stepA x xs rfl (fun z hz => by have := low y ys hb z hz; omega)
          refine ⟨r, Ev.step (f := fun k => interval_Union.j1 k (x :: xs) (y :: ys) out true) (fun k => ?_) (Ev.step (fun k => ?_) hr), rest⟩
          · simp only [interval_Union.l0]; rw [if_pos (by simp <;> omega)]
          · simp only [interval_Union.j1]; rw [if_pos trivial, if_neg (by simp <;> omega), if_pos (by simp <;> omega), if_pos (by simp <;> omega), if_pos (by simp <;> omega), rd_head, rd_head, decide_eq_true c]
        · obtain ⟨r, hr, rest⟩ := stepB y ys rfl (fun z hz => by have := low x xs ha z hz; omega)
          refine ⟨r, Ev.step (f := fun k => interval_Union.j1 k (x :: xs) (y :: ys) out true) (fun k => ?_) (Ev.step (fun k => ?_) hr), rest⟩
          · simp only [interval_Union.l0]; rw [if_pos (by simp <;> omega)]
          · simp only [interval_Union.j1]; rw [if_pos trivial, if_neg (by simp <;> omega), if_pos (by simp <;> omega), if_pos (by simp <;> omega), if_pos (by simp <;> omega), rd_head, rd_head, decide_eq_false c]
theorem union_ok (a b : List S28) (ha : Val a) (hb : Val b) (hl : a.length + b.length < 8796093022208) :
    ∃ r, Ev (fun k => interval_Union.f k a b) (r, 0) ∧ Val r ∧ (∀ n, mem r n ↔ mem a n ∨ mem b n) ∧ r.length ≤ a.length + b.length := by
  obtain ⟨r, hr, vr, mr, nr⟩ := union_loop _ a b [] rfl ha hb trivial (fun _ h => by cases h) (fun _ h => by cases h) (by simpa using hl)
  refine ⟨r, ?_, vr, fun n => ?_, by simpa using nr⟩
  · have h0 := both_ev a b (by unfold maxLen; omega) (by unfold maxLen; omega)
    rw [if_pos ((chk_val a).2 ha), (chk_val b).2 hb] at h0
    exact Ev.bind (f := fun k t => if t = 0 then interval_Union.l0 k a b [] else some ([], t)) h0 (Ev.yes rfl hr)
  · rw [mr]
    exact ⟨fun h => h.resolve_left (mem_nil n), .inr⟩
theorem union_err (a b : List S28) (ha : a.length ≤ maxLen) (hb : b.length ≤ maxLen) (h : ¬ (Val a ∧ Val b)) :
    Ev (fun k => interval_Union.f k a b) ([], if chk none a = 0 then chk none b else chk none a) ∧ ¬ (if chk none a = 0 then chk none b else chk none a) = 0 := by
  have hne : ¬ (if chk none a = 0 then chk none b else chk none a) = 0 := by
    intro e
    by_cases h0 : chk none a = 0
    · rw [if_pos h0] at e
      exact h ⟨(chk_val a).1 h0, (chk_val b).1 e⟩
    · rw [if_neg h0] at e
      exact h0 e
  exact ⟨Ev.bind (f := fun k t => if t = 0 then interval_Union.l0 k a b [] else some ([], t)) (both_ev a b ha hb) (Ev.no hne (Ev.now _)), hne⟩
end Go.Proofs.Ytkgknibciclmjaa.I

/- Intersect: the lists' walk, over lists alone. -/
import Derived.Test.YtkgknibciclmjaaIAU
import Derived.Test.YtkgknibciclmjaaI38
set_option linter.unusedSimpArgs false
set_option linter.unusedVariables false
namespace Go.Proofs.Ytkgknibciclmjaa.I
open Go.RowKit Go.Proofs.YtkgknibciclmjaaW.PrintWords Go.Proofs.YtkgknibciclmjaaW.PrintLast

theorem inter_loop (d : Nat) : ∀ (a b out : List S28), a.length + b.length = d → Val a → Val b → Val out →
    (∀ y ∈ out, (∀ z ∈ a, y.f1 < z.f0) ∨ (∀ z ∈ b, y.f1 < z.f0)) → out.length + d < 8796093022208 →
    ∃ r, Ev (fun k => interval_Intersect.l0 k a b out) (r, 0) ∧ Val r ∧ (∀ n, mem r n ↔ mem out n ∨ (mem a n ∧ mem b n)) ∧ r.length ≤ out.length + d := by
  induction d with
  | zero =>
    intro a b out hd ha hb ho h1 hl
    obtain rfl : a = [] := List.length_eq_zero_iff.1 (by omega)
    obtain rfl : b = [] := List.length_eq_zero_iff.1 (by omega)
    refine ⟨out, Ev.step (f := fun k => interval_Intersect.j1 k [] [] out false) (fun k => ?_) (Ev.step (f := fun _ => some (out, 0)) (fun k => ?_) (Ev.now _)), ho, fun n => ?_, by omega⟩
    · simp only [interval_Intersect.l0]; rw [if_neg (by simp)]
    · simp only [interval_Intersect.j1]; rw [if_neg (by simp)]
    · exact ⟨.inl, fun h => h.elim id (fun h => absurd h.1 (mem_nil n))⟩
  | succ d ih =>
    intro a b out hd ha hb ho h1 hl
    cases a with
    | nil =>
      refine ⟨out, Ev.step (f := fun k => interval_Intersect.j1 k [] b out false) (fun k => ?_) (Ev.step (f := fun _ => some (out, 0)) (fun k => ?_) (Ev.now _)), ho, fun n => ?_, by omega⟩
      · simp only [interval_Intersect.l0]; rw [if_neg (by simp)]
      · simp only [interval_Intersect.j1]; rw [if_neg (by simp)]
      · exact ⟨.inl, fun h => h.elim id (fun h => absurd h.1 (mem_nil n))⟩
    | cons x xs =>
      cases b with
      | nil =>
        refine ⟨out, Ev.step (f := fun k => interval_Intersect.j1 k (x :: xs) [] out false) (fun k => ?_) (Ev.step (f := fun _ => some (out, 0)) (fun k => ?_) (Ev.now _)), ho, fun n => ?_, by omega⟩
        · simp only [interval_Intersect.l0]; rw [if_pos (by simp <;> omega)]; rfl
        · simp only [interval_Intersect.j1]; rw [if_neg (by simp)]
        · exact ⟨.inl, fun h => h.elim id (fun h => absurd h.2 (mem_nil n))⟩
      | cons y ys =>
        simp only [List.length_cons] at hd
        -- what is appended
        obtain ⟨o2, ho2, v2, m2, l2, c2⟩ : ∃ o2 : List S28, (o2 = if max x.f0 y.f0 < min x.f1 y.f1 then out ++ [⟨max x.f0 y.f0, min x.f1 y.f1⟩] else out) ∧ Val o2 ∧ (∀ n, mem o2 n ↔ mem out n ∨ (max x.f0 y.f0 ≤ n ∧ n < min x.f1 y.f1)) ∧ o2.length ≤ out.length + 1 ∧
            (∀ z ∈ o2, z ∈ out ∨ z.f1 = min x.f1 y.f1) := by
          by_cases c : max x.f0 y.f0 < min x.f1 y.f1
          · refine ⟨_, rfl, ?_⟩
            rw [if_pos c]
            refine ⟨(val_snoc _ _).2 ⟨ho, c, fun z hz => ?_⟩, fun n => by rw [mem_append, mem_one], by simp, fun z hz => ?_⟩
            · show z.f1 < max x.f0 y.f0
              rcases h1 z hz with h | h
              · have := h x List.mem_cons_self; omega
              · have := h y List.mem_cons_self; omega
            · rcases List.mem_append.1 hz with hz | hz
              · exact .inl hz
              · rw [List.mem_singleton.1 hz]; exact .inr rfl
          · refine ⟨_, rfl, ?_⟩
            rw [if_neg c]
            exact ⟨ho, fun n => ⟨.inl, fun h => h.elim id (fun h => absurd h (by omega))⟩, by omega, fun z hz => .inl hz⟩
        have hx := ha.1
        have hy := hb.1
        by_cases cd : x.f1 ≤ y.f1
        · obtain ⟨r, hr, vr, mr, nr⟩ := ih xs (y :: ys) o2 (by simp <;> omega) ha.2.2 hb v2 (fun z hz => by
            rcases c2 z hz with h | h
            · rcases h1 z h with g | g
              · exact .inl (fun u hu => g u (List.mem_cons_of_mem _ hu))
              · exact .inr g
            · exact .inl (fun u hu => by have := ha.2.1 u hu; omega)) (by omega)
          refine ⟨r, Ev.step (f := fun k => interval_Intersect.j1 k (x :: xs) (y :: ys) out true) (fun k => ?_) (Ev.step (fun k => ?_) hr), vr, fun n => ?_, by omega⟩
          · simp only [interval_Intersect.l0]; rw [if_pos (by simp <;> omega), decide_eq_true (show (((y :: ys).length : Nat) : Int) > 0 by simp <;> omega)]
          · simp only [interval_Intersect.j1]
            rw [if_pos trivial]
            rw [if_pos (by simp <;> omega), if_pos (by simp <;> omega), rd_head, rd_head, mx_eq, mn_eq, ho2]
            by_cases c : max x.f0 y.f0 < min x.f1 y.f1
            · rw [if_pos c, if_pos c, if_pos (by omega)]; simp only [Option.bind_some]; rw [if_pos cd, if_pos (by simp <;> omega)]; rfl
            · rw [if_neg c, if_neg c, if_pos cd, if_pos (by simp <;> omega)]; rfl
          · rw [mr, m2, mem_cons, mem_cons]
            constructor
            · rintro ((h | h) | ⟨h, g⟩)
              · exact .inl h
              · exact .inr ⟨.inl (by omega), .inl (by omega)⟩
              · exact .inr ⟨.inr h, g⟩
            · rintro (h | ⟨h | h, g | g⟩)
              · exact .inl (.inl h)
              · exact .inl (.inr (by omega))
              · have := mem_after hb g; exact absurd h (by omega)
              · exact .inr ⟨h, .inl g⟩
              · exact .inr ⟨h, .inr g⟩
        · obtain ⟨r, hr, vr, mr, nr⟩ := ih (x :: xs) ys o2 (by simp <;> omega) ha hb.2.2 v2 (fun z hz => by
            rcases c2 z hz with h | h
            · rcases h1 z h with g | g
              · exact .inl g
              · exact .inr (fun u hu => g u (List.mem_cons_of_mem _ hu))
            · exact .inr (fun u hu => by have := hb.2.1 u hu; omega)) (by omega)
          refine ⟨r, Ev.step (f := fun k => interval_Intersect.j1 k (x :: xs) (y :: ys) out true) (fun k => ?_) (Ev.step (fun k => ?_) hr), vr, fun n => ?_, by omega⟩
          · simp only [interval_Intersect.l0]; rw [if_pos (by simp <;> omega), decide_eq_true (show (((y :: ys).length : Nat) : Int) > 0 by simp <;> omega)]
          · simp only [interval_Intersect.j1]
            rw [if_pos trivial]
            rw [if_pos (by simp <;> omega), if_pos (by simp <;> omega), rd_head, rd_head, mx_eq, mn_eq, ho2]
            by_cases c : max x.f0 y.f0 < min x.f1 y.f1
            · rw [if_pos c, if_pos c, if_pos (by omega)]; simp only [Option.bind_some]; rw [if_neg cd, if_pos (by simp <;> omega)]; rfl
            · rw [if_neg c, if_neg c, if_neg cd, if_pos (by simp <;> omega)]; rfl
          · rw [mr, m2, mem_cons, mem_cons]
            constructor
            · rintro ((h | h) | ⟨h, g⟩)
              · exact .inl h
              · exact .inr ⟨.inl (by omega), .inl (by omega)⟩
              · exact .inr ⟨h, .inr g⟩
            · rintro (h | ⟨h | h, g | g⟩)
              · exact .inl (.inl h)
              · exact .inl (.inr (by omega))
              · exact .inr ⟨.inl h, g⟩
              · have := mem_after ha h; exact absurd g (by omega)
              · exact .inr ⟨.inr h, g⟩
theorem inter_ok (a b : List S28) (ha : Val a) (hb : Val b) (hl : a.length + b.length < 8796093022208) :
    ∃ r, Ev (fun k => interval_Intersect.f k a b) (r, 0) ∧ Val r ∧ (∀ n, mem r n ↔ mem a n ∧ mem b n) ∧ r.length ≤ a.length + b.length := by
  obtain ⟨r, hr, vr, mr, nr⟩ := inter_loop _ a b [] rfl ha hb trivial (fun _ h => by cases h) (by simpa using hl)
  refine ⟨r, ?_, vr, fun n => ?_, by simpa using nr⟩
  · have h0 := both_ev a b (by unfold maxLen; omega) (by unfold maxLen; omega)
    rw [if_pos ((chk_val a).2 ha), (chk_val b).2 hb] at h0
    exact Ev.bind (f := fun k t => if t = 0 then interval_Intersect.l0 k a b [] else some ([], t)) h0 (Ev.yes rfl hr)
  · rw [mr]
    exact ⟨fun h => h.resolve_left (mem_nil n), .inr⟩
theorem inter_err (a b : List S28) (ha : a.length ≤ maxLen) (hb : b.length ≤ maxLen) (h : ¬ (Val a ∧ Val b)) :
    Ev (fun k => interval_Intersect.f k a b) ([], if chk none a = 0 then chk none b else chk none a) :=
  Ev.bind (f := fun k t => if t = 0 then interval_Intersect.l0 k a b [] else some ([], t)) (both_ev a b ha hb) (Ev.no (union_err a b ha hb h).2 (Ev.now _))
end Go.Proofs.Ytkgknibciclmjaa.I

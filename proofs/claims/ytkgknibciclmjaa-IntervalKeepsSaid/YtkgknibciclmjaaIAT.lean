/- What is left of one list behind another: over lists alone. -/
import Derived.Test.YtkgknibciclmjaaIA
import Derived.Test.YtkgknibciclmjaaI12
set_option linter.unusedSimpArgs false
set_option linter.unusedVariables false
namespace Go.Proofs.Ytkgknibciclmjaa.I
open Go.RowKit Go.Proofs.YtkgknibciclmjaaW.PrintWords Go.Proofs.YtkgknibciclmjaaW.PrintLast

def Ends (E : Int → Prop) (l : List S28) : Prop := ∀ x ∈ l, E x.f0 ∧ E x.f1
theorem ends_snoc {E : Int → Prop} {l : List S28} {a b : Int} (h : Ends E l) (ha : E a) (hb : E b) : Ends E (l ++ [⟨a, b⟩]) := by
  intro x hx
  rcases List.mem_append.1 hx with hx | hx
  · exact h x hx
  · rw [List.mem_singleton.1 hx]; exact ⟨ha, hb⟩

theorem cut_inner (E : Int → Prop) (b a : List S28) (len i : Int) (xt : Int) (hb : b.length ≤ maxLen) (post : List S28) : ∀ (pre out : List S28) (xf : Int), b = pre ++ post → Val post → Val out →
    (∀ o ∈ out, o.f1 < xf) → (∀ z ∈ post, xf < z.f1) → Ends E post → Ends E out → E xf → E xt → out.length + post.length + 1 < 8796093022208 →
    ∃ out2, Val out2 ∧ (∀ n, mem out2 n ↔ mem out n ∨ (xf ≤ n ∧ n < xt ∧ ¬ mem post n)) ∧ (∀ o ∈ out2, o ∈ out ∨ o.f1 ≤ xt) ∧ Ends E out2 ∧ out2.length ≤ out.length + post.length + 1 ∧
      ∀ r, Ev (fun k => interval_cut.l0 k b out2 a len (wrap64 (i + 1))) r → Ev (fun k => interval_cut.l2 k b out a len i b (b.length : Int) (pre.length : Int) xf xt) r := by
  unfold maxLen at hb
  induction post with
  | nil =>
    intro pre out xf h _ ho hlt _ _ eo ex et hl
    by_cases c : xf < xt
    · refine ⟨out ++ [⟨xf, xt⟩], (val_snoc _ _).2 ⟨ho, c, hlt⟩, fun n => ?_, fun o hm => ?_, ends_snoc eo ex et, by simp, fun r hr => Ev.step (fun k => ?_) hr⟩
      · rw [mem_append, mem_one]
        exact ⟨fun h => h.imp id (fun h => ⟨h.1, h.2, mem_nil n⟩), fun h => h.imp id (fun h => ⟨h.1, h.2.1⟩)⟩
      · rcases List.mem_append.1 hm with hm | hm
        · exact .inl hm
        · rw [List.mem_singleton.1 hm]; exact .inr (Int.le_refl _)
      · simp only [interval_cut.l2]
        rw [if_neg (by rw [h]; simp), if_pos c, if_pos (by omega)]
    · refine ⟨out, ho, fun n => ⟨.inl, fun h => h.elim id (fun h => absurd h.1 (by omega))⟩, fun o hm => .inl hm, eo, by omega, fun r hr => Ev.step (fun k => ?_) hr⟩
      simp only [interval_cut.l2]
      rw [if_neg (by rw [h]; simp), if_neg c]
  | cons y post ih =>
    intro pre out xf h hv ho hlt hz ep eo ex et hl
    simp only [List.length_cons] at hl
    have hlen : b.length = pre.length + (post.length + 1) := by rw [h]; simp
    have hy : rd_T28 b (pre.length : Int) = y := by rw [h]; exact rd_mid pre y post
    have hw : wrap64 ((pre.length : Int) + 1) = ((pre ++ [y]).length : Int) := by rw [wrap_next (by omega) (by omega)]; simp
    have h1 : (pre.length : Int) < (b.length : Int) := by omega
    have h0 : (0 : Int) ≤ (pre.length : Int) := by omega
    have hpos := hv.1
    have hzy := hz y List.mem_cons_self
    have ey := ep y List.mem_cons_self
    by_cases c : y.f0 ≥ xt ∨ xf ≥ xt
    · -- the loop is left
      have step : ∀ r, Ev (fun k => interval_cut.j4 k b out a len i b (b.length : Int) (pre.length : Int) true xf xt y.f0 y.f1) r → Ev (fun k => interval_cut.l2 k b out a len i b (b.length : Int) (pre.length : Int) xf xt) r := by
        intro r hr
        refine Ev.step (fun k => ?_) hr
        simp only [interval_cut.l2]
        rw [if_pos h1, if_pos h0, if_pos h1, hy]
        by_cases c1 : y.f0 ≥ xt
        · rw [if_pos c1]
        · rw [if_neg c1, decide_eq_true (c.resolve_left c1)]
      by_cases c2 : xf < xt
      · have c1 : y.f0 ≥ xt := c.resolve_right (by omega)
        refine ⟨out ++ [⟨xf, xt⟩], (val_snoc _ _).2 ⟨ho, c2, hlt⟩, fun n => ?_, fun o hm => ?_, ends_snoc eo ex et, by simp, fun r hr => step r (Ev.step (fun k => ?_) hr)⟩
        · rw [mem_append, mem_one]
          refine ⟨fun h => h.imp id (fun h => ⟨h.1, h.2, ?_⟩), fun h => h.imp id (fun h => ⟨h.1, h.2.1⟩)⟩
          have h2 : n < xt := h.2
          rw [mem_cons]
          rintro (g | g)
          · omega
          · have := mem_after hv g; omega
        · rcases List.mem_append.1 hm with hm | hm
          · exact .inl hm
          · rw [List.mem_singleton.1 hm]; exact .inr (Int.le_refl _)
        · simp only [interval_cut.j4]
          rw [if_pos trivial, if_pos c2, if_pos (by omega)]
      · refine ⟨out, ho, fun n => ⟨.inl, fun h => h.elim id (fun h => absurd h.1 (by omega))⟩, fun o hm => .inl hm, eo, by omega, fun r hr => step r (Ev.step (fun k => ?_) hr)⟩
        simp only [interval_cut.j4]
        rw [if_pos trivial, if_neg c2]
    · have c1 : ¬ y.f0 ≥ xt := fun h => c (.inl h)
      have c2 : ¬ xf ≥ xt := fun h => c (.inr h)
      have step : ∀ r, Ev (fun k => interval_cut.j4 k b out a len i b (b.length : Int) (pre.length : Int) false xf xt y.f0 y.f1) r → Ev (fun k => interval_cut.l2 k b out a len i b (b.length : Int) (pre.length : Int) xf xt) r := by
        intro r hr
        refine Ev.step (fun k => ?_) hr
        simp only [interval_cut.l2]
        rw [if_pos h1, if_pos h0, if_pos h1, hy, if_neg c1, decide_eq_false c2]
      have nextz : ∀ z ∈ post, y.f1 < z.f1 := fun z hz' => by have := hv.2.1 z hz'; have := hv.2.2.pos z hz'; omega
      by_cases d : xf < y.f0
      · obtain ⟨o2, v2, m2, l2, e2, n2, k2⟩ := ih (pre ++ [y]) (out ++ [⟨xf, y.f0⟩]) y.f1 (by rw [h]; simp) hv.2.2 ((val_snoc _ _).2 ⟨ho, d, hlt⟩) (fun o hm => by
          rcases List.mem_append.1 hm with hm | hm
          · have := hlt o hm; omega
          · rw [List.mem_singleton.1 hm]; exact hpos) nextz (fun z hz' => ep z (List.mem_cons_of_mem _ hz')) (ends_snoc eo ex ey.1) ey.2 et (by simp; omega)
        refine ⟨o2, v2, fun n => ?_, fun o hm => ?_, e2, by simp at n2 ⊢; omega, fun r hr => step r (Ev.step (fun k => ?_) (k2 r hr))⟩
        · rw [m2, mem_append, mem_one, mem_cons]
          show ((mem out n ∨ xf ≤ n ∧ n < y.f0) ∨ y.f1 ≤ n ∧ n < xt ∧ ¬ mem post n) ↔ mem out n ∨ xf ≤ n ∧ n < xt ∧ ¬ ((y.f0 ≤ n ∧ n < y.f1) ∨ mem post n)
          constructor
          · rintro ((h | h) | ⟨h, g, u⟩)
            · exact .inl h
            · refine .inr ⟨h.1, by omega, ?_⟩
              rintro (g | g)
              · omega
              · have := mem_after hv g; omega
            · exact .inr ⟨by omega, g, fun e => e.elim (fun e => by omega) u⟩
          · rintro (h | ⟨h, g, u⟩)
            · exact .inl (.inl h)
            · by_cases e : n < y.f0
              · exact .inl (.inr ⟨h, e⟩)
              · refine .inr ⟨?_, g, fun e => u (.inr e)⟩
                by_cases e2 : y.f1 ≤ n
                · exact e2
                · exact absurd (.inl ⟨by omega, by omega⟩) u
        · rcases l2 o hm with g | g
          · rcases List.mem_append.1 g with g | g
            · exact .inl g
            · rw [List.mem_singleton.1 g]; exact .inr (by show y.f0 ≤ xt; omega)
          · exact .inr g
        · simp only [interval_cut.j4]
          rw [if_neg (by simp), if_pos d, if_pos (by omega), hw]
      · obtain ⟨o2, v2, m2, l2, e2, n2, k2⟩ := ih (pre ++ [y]) out y.f1 (by rw [h]; simp) hv.2.2 ho (fun o hm => by have := hlt o hm; omega) nextz (fun z hz' => ep z (List.mem_cons_of_mem _ hz')) eo ey.2 et (by omega)
        refine ⟨o2, v2, fun n => ?_, fun o hm => ?_, e2, by simp at n2 ⊢; omega, fun r hr => step r (Ev.step (fun k => ?_) (k2 r hr))⟩
        · rw [m2, mem_cons]
          constructor
          · rintro (h | ⟨h, g, u⟩)
            · exact .inl h
            · exact .inr ⟨by omega, g, fun e => e.elim (fun e => by omega) u⟩
          · rintro (h | ⟨h, g, u⟩)
            · exact .inl h
            · refine .inr ⟨?_, g, fun e => u (.inr e)⟩
              by_cases e2 : y.f1 ≤ n
              · exact e2
              · exact absurd (.inl ⟨by omega, by omega⟩) u
        · exact l2 o hm
        · simp only [interval_cut.j4]
          rw [if_neg (by simp), if_neg d, hw]
theorem cut_while (E : Int → Prop) (out a : List S28) (len i xf xt : Int) (b : List S28) : Val b → Ends E b →
    ∃ b2, Val b2 ∧ (∀ z ∈ b2, xf < z.f1) ∧ (∀ n, xf ≤ n → (mem b2 n ↔ mem b n)) ∧ Ends E b2 ∧ b2.length ≤ b.length ∧
      ∀ r, Ev (fun k => interval_cut.l2 k b2 out a len i b2 (b2.length : Int) 0 xf xt) r → Ev (fun k => interval_cut.l1 k b out a len i xf xt) r := by
  induction b with
  | nil =>
    intro _ _
    refine ⟨[], trivial, (fun _ h => by cases h), fun n _ => Iff.rfl, (fun _ h => by cases h), Nat.le_refl _, fun r hr => Ev.step (f := fun k => interval_cut.j2 k [] out a len i xf xt) (fun k => ?_) (Ev.step (fun k => ?_) hr)⟩
    · simp only [interval_cut.l1]; rw [if_neg (by simp)]
    · simp only [interval_cut.j2]
  | cons y b ih =>
    intro hv he
    by_cases c : y.f1 ≤ xf
    · obtain ⟨b2, v2, l2, m2, e2, n2, k2⟩ := ih hv.2.2 (fun z hz => he z (List.mem_cons_of_mem _ hz))
      refine ⟨b2, v2, l2, fun n hn => ?_, e2, by simp; omega, fun r hr => Ev.step (fun k => ?_) (k2 r hr)⟩
      · rw [m2 n hn, mem_cons]
        exact ⟨.inr, fun h => h.elim (fun h => by omega) id⟩
      · simp only [interval_cut.l1]
        rw [if_pos (by simp <;> omega), if_pos (by simp <;> omega), rd_head, if_pos c, if_pos (by simp <;> omega)]
        rfl
    · refine ⟨y :: b, hv, fun z hz => ?_, fun n _ => Iff.rfl, he, Nat.le_refl _, fun r hr => Ev.step (f := fun k => interval_cut.j2 k (y :: b) out a len i xf xt) (fun k => ?_) (Ev.step (fun k => ?_) hr)⟩
      · rcases List.mem_cons.1 hz with rfl | hz
        · omega
        · have := hv.2.1 z hz; have := hv.2.2.pos z hz; omega
      · simp only [interval_cut.l1]
        rw [if_pos (by simp <;> omega), if_pos (by simp <;> omega), rd_head, if_neg c]
      · simp only [interval_cut.j2]
theorem cut_outer (E : Int → Prop) (a : List S28) (ha : a.length ≤ maxLen) (N : Nat) (hN : N ≤ 1000000) (post : List S28) : ∀ (pre out b : List S28), a = pre ++ post → Val post → Val b → Val out → b.length ≤ N →
    (∀ o ∈ out, ∀ x ∈ post, o.f1 < x.f0) → Ends E post → Ends E b → Ends E out → out.length + post.length * (N + 1) < 8796093022208 →
    ∃ r, Ev (fun k => interval_cut.l0 k b out a (a.length : Int) (pre.length : Int)) r ∧ Val r ∧ (∀ n, mem r n ↔ mem out n ∨ (mem post n ∧ ¬ mem b n)) ∧ Ends E r ∧ r.length ≤ out.length + post.length * (N + 1) := by
  unfold maxLen at ha
  induction post with
  | nil =>
    intro pre out b h _ _ ho hb _ _ _ eo _
    refine ⟨out, Ev.step (f := fun _ => some out) (fun k => ?_) (Ev.now _), ho, fun n => ⟨.inl, fun h => h.elim id (fun h => absurd h.1 (mem_nil n))⟩, eo, by omega⟩
    simp only [interval_cut.l0]
    rw [if_neg (by rw [h]; simp)]
  | cons x post ih =>
    intro pre out b h hv vb ho hb hlt ep eb eo hl
    have hmul : (post.length + 1) * (N + 1) = post.length * (N + 1) + (N + 1) := Nat.succ_mul _ _
    simp only [List.length_cons] at hl
    rw [hmul] at hl
    have hlen : a.length = pre.length + (post.length + 1) := by rw [h]; simp
    have hx : rd_T28 a (pre.length : Int) = x := by rw [h]; exact rd_mid pre x post
    have hw : wrap64 ((pre.length : Int) + 1) = ((pre ++ [x]).length : Int) := by rw [wrap_next (by omega) (by omega)]; simp
    have h1 : (pre.length : Int) < (a.length : Int) := by omega
    have h0 : (0 : Int) ≤ (pre.length : Int) := by omega
    have ex := ep x List.mem_cons_self
    obtain ⟨b2, vb2, lb2, mb2, eb2, nb2, kb2⟩ := cut_while E out a (a.length : Int) (pre.length : Int) x.f0 x.f1 b vb eb
    obtain ⟨o2, v2, m2, l2, e2, n2, k2⟩ := cut_inner E b2 a (a.length : Int) (pre.length : Int) x.f1 (by unfold maxLen; omega) b2 [] out x.f0 rfl vb2 ho (fun o hm => hlt o hm x List.mem_cons_self) lb2 eb2 eo ex.1 ex.2 (by omega)
    have hx01 := hv.1
    obtain ⟨r, hr, vr, mr, er, nr⟩ := ih (pre ++ [x]) o2 b2 (by rw [h]; simp) hv.2.2 vb2 v2 (by omega) (fun o hm z hz => by
      have h5 := hv.2.1 z hz
      rcases l2 o hm with g | g
      · have := hlt o g x List.mem_cons_self; omega
      · omega) (fun z hz => ep z (List.mem_cons_of_mem _ hz)) eb2 e2 (by omega)
    refine ⟨r, Ev.step (f := fun k => interval_cut.l1 k b out a (a.length : Int) (pre.length : Int) x.f0 x.f1) (fun k => ?_) (kb2 r (k2 r ?_)), vr, fun n => ?_, er, by simp only [List.length_cons]; rw [hmul]; omega⟩
    · simp only [interval_cut.l0]
      rw [if_pos h1, if_pos h0, if_pos h1, hx]
    · rw [hw]; exact hr
    · rw [mr, m2, mem_cons]
      constructor
      · rintro ((h | ⟨h, g, u⟩) | ⟨h, u⟩)
        · exact .inl h
        · exact .inr ⟨.inl ⟨h, g⟩, fun e => u ((mb2 n h).2 e)⟩
        · have := mem_after hv h
          exact .inr ⟨.inr h, fun e => u ((mb2 n (by omega)).2 e)⟩
      · rintro (h | ⟨h | h, u⟩)
        · exact .inl (.inl h)
        · exact .inl (.inr ⟨h.1, h.2, fun e => u ((mb2 n h.1).1 e)⟩)
        · have := mem_after hv h
          exact .inr ⟨h, fun e => u ((mb2 n (by omega)).1 e)⟩
theorem cut_ok (E : Int → Prop) (a b : List S28) (ha : Val a) (hb : Val b) (ea : Ends E a) (eb : Ends E b) (la : a.length ≤ 1000) (lb : b.length ≤ 1000) :
    ∃ r, Ev (fun k => interval_cut.f k a b) r ∧ Val r ∧ (∀ n, mem r n ↔ mem a n ∧ ¬ mem b n) ∧ Ends E r ∧ r.length ≤ a.length * (b.length + 1) := by
  have hm : a.length * (b.length + 1) ≤ 1000 * 1001 := Nat.mul_le_mul la (by omega)
  obtain ⟨r, hr, vr, mr, er, nr⟩ := cut_outer E a (by unfold maxLen; omega) b.length (by omega) a [] [] b rfl ha hb trivial (Nat.le_refl _) (fun _ h => by cases h) ea eb (fun _ h => by cases h) (by simp only [List.length_nil]; omega)
  refine ⟨r, hr, vr, fun n => ?_, er, by simp only [List.length_nil] at nr; omega⟩
  rw [mr]
  exact ⟨fun h => h.resolve_left (mem_nil n), .inr⟩
end Go.Proofs.Ytkgknibciclmjaa.I

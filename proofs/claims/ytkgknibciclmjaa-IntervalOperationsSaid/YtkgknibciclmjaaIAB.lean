/- The document's own way: sets decided between all ends: over lists alone. -/
import Derived.Test.YtkgknibciclmjaaIAC
import Derived.Test.YtkgknibciclmjaaI22
import Derived.Test.YtkgknibciclmjaaI23
import Derived.Test.YtkgknibciclmjaaI24
import Derived.Test.YtkgknibciclmjaaI25
set_option linter.unusedSimpArgs false
set_option linter.unusedVariables false
namespace Go.Proofs.Ytkgknibciclmjaa.I
open Go.RowKit Go.Proofs.YtkgknibciclmjaaW.PrintWords Go.Proofs.YtkgknibciclmjaaW.PrintLast

theorem rdi_mid (pre : List Int) (x : Int) (post : List Int) : rd (pre ++ x :: post) (pre.length : Int) = x := by
  simp [rd]
def Asc : List Int → Prop
  | [] => True
  | x :: xs => (∀ y ∈ xs, x < y) ∧ Asc xs
def ins (n : Int) : List Int → List Int
  | [] => [n]
  | x :: xs => if n ≤ x then (if n < x then n :: x :: xs else x :: xs) else x :: ins n xs
theorem mem_ins (n : Int) (l : List Int) (m : Int) : m ∈ ins n l ↔ m ∈ l ∨ m = n := by
  induction l with
  | nil => simp [ins]
  | cons x xs ih =>
    simp only [ins]
    by_cases c : n ≤ x
    · rw [if_pos c]
      by_cases d : n < x
      · rw [if_pos d]; simp only [List.mem_cons]; exact ⟨fun h => h.elim .inr .inl, fun h => h.elim .inr .inl⟩
      · rw [if_neg d]
        have : n = x := by omega
        subst this
        simp only [List.mem_cons]
        exact ⟨.inl, fun h => h.elim id .inl⟩
    · rw [if_neg c]; simp only [List.mem_cons, ih]
      exact ⟨fun h => h.elim (fun h => .inl (.inl h)) (fun h => h.elim (fun h => .inl (.inr h)) .inr), fun h => h.elim (fun h => h.elim .inl (fun h => .inr (.inl h))) (fun h => .inr (.inr h))⟩
theorem asc_ins (n : Int) (l : List Int) (h : Asc l) : Asc (ins n l) := by
  induction l with
  | nil => exact ⟨(fun _ h => by cases h), trivial⟩
  | cons x xs ih =>
    simp only [ins]
    by_cases c : n ≤ x
    · rw [if_pos c]
      by_cases d : n < x
      · rw [if_pos d]
        refine ⟨fun y hy => ?_, h⟩
        rcases List.mem_cons.1 hy with rfl | hy
        · exact d
        · have := h.1 y hy; omega
      · rw [if_neg d]; exact h
    · rw [if_neg c]
      refine ⟨fun y hy => ?_, ih h.2⟩
      rcases (mem_ins n xs y).1 hy with hy | hy
      · exact h.1 y hy
      · omega
theorem len_ins (n : Int) (l : List Int) : (ins n l).length ≤ l.length + 1 := by
  induction l with
  | nil => simp [ins]
  | cons x xs ih =>
    simp only [ins]
    by_cases c : n ≤ x
    · rw [if_pos c]
      by_cases d : n < x
      · rw [if_pos d]; simp
      · rw [if_neg d]; simp
    · rw [if_neg c]; simp; omega
theorem put_done (l : List Int) (n : Int) (hl : l.length ≤ 1000000) (post : List Int) : ∀ (pre out : List Int), l = pre ++ post → out.length + post.length ≤ 3000000 →
    Ev (fun k => estoversref02_put.l0 k l n out true (pre.length : Int)) (out ++ post) := by
  induction post with
  | nil =>
    intro pre out h _
    refine Ev.step (f := fun _ => some out) (fun k => ?_) (by rw [List.append_nil]; exact Ev.now _)
    simp only [estoversref02_put.l0]
    rw [if_neg (by rw [h]; simp), if_pos trivial]
  | cons x post ih =>
    intro pre out h ho
    simp only [List.length_cons] at ho
    have hlen : l.length = pre.length + (post.length + 1) := by rw [h]; simp
    have hx : rd l (pre.length : Int) = x := by rw [h]; exact rdi_mid pre x post
    have hw : wrap64 ((pre.length : Int) + 1) = ((pre ++ [x]).length : Int) := by rw [wrap_next (by omega) (by omega)]; simp
    have h1 : (pre.length : Int) < (l.length : Int) := by omega
    have h0 : (0 : Int) ≤ (pre.length : Int) := by omega
    have ih' := ih (pre ++ [x]) (out ++ [x]) (by rw [h]; simp) (by simp; omega)
    rw [List.append_assoc, List.singleton_append] at ih'
    refine Ev.step (f := fun k => estoversref02_put.j1 k l n out true (pre.length : Int) false) (fun k => ?_) (Ev.step (fun k => ?_) ih')
    · simp only [estoversref02_put.l0]
      rw [if_pos h1, if_pos trivial]
    · simp only [estoversref02_put.j1]
      rw [if_neg (by simp), if_pos h0, if_pos h1, if_pos (by omega), hx, hw]
theorem refput_loop (l : List Int) (n : Int) (hl : l.length ≤ 1000000) (post : List Int) : ∀ (pre out : List Int), l = pre ++ post → out.length + post.length ≤ 2000000 →
    Ev (fun k => estoversref02_put.l0 k l n out false (pre.length : Int)) (out ++ ins n post) := by
  induction post with
  | nil =>
    intro pre out h ho
    refine Ev.step (f := fun _ => some (out ++ [n])) (fun k => ?_) (Ev.now _)
    simp only [estoversref02_put.l0]
    rw [if_neg (by rw [h]; simp), if_neg (by simp), if_pos (by simp at ho; omega)]
  | cons x post ih =>
    intro pre out h ho
    simp only [List.length_cons] at ho
    have hlen : l.length = pre.length + (post.length + 1) := by rw [h]; simp
    have hx : rd l (pre.length : Int) = x := by rw [h]; exact rdi_mid pre x post
    have hw : wrap64 ((pre.length : Int) + 1) = ((pre ++ [x]).length : Int) := by rw [wrap_next (by omega) (by omega)]; simp
    have h1 : (pre.length : Int) < (l.length : Int) := by omega
    have h0 : (0 : Int) ≤ (pre.length : Int) := by omega
    have start : ∀ r, Ev (fun k => estoversref02_put.j1 k l n out false (pre.length : Int) (decide (n ≤ x))) r → Ev (fun k => estoversref02_put.l0 k l n out false (pre.length : Int)) r := by
      intro r hr
      refine Ev.step (fun k => ?_) hr
      simp only [estoversref02_put.l0]
      rw [if_pos h1, if_neg (by simp), if_pos h0, hx]
    refine start _ ?_
    by_cases c : n ≤ x
    · rw [decide_eq_true c]
      by_cases d : n < x
      · have hd := put_done l n hl post (pre ++ [x]) (out ++ [n] ++ [x]) (by rw [h]; simp) (by simp; omega)
        have he : out ++ ins n (x :: post) = out ++ [n] ++ [x] ++ post := by simp [ins, c, d]
        rw [he]
        refine Ev.step (fun k => ?_) hd
        simp only [estoversref02_put.j1]
        rw [if_pos trivial, if_pos h0, if_pos h1, hx, if_pos d, if_pos (by omega)]
        simp only [Option.bind_some]
        rw [if_pos (by simp; omega), hw]
      · have hd := put_done l n hl post (pre ++ [x]) (out ++ [x]) (by rw [h]; simp) (by simp; omega)
        have he : out ++ ins n (x :: post) = out ++ [x] ++ post := by simp [ins, c, d]
        rw [he]
        refine Ev.step (fun k => ?_) hd
        simp only [estoversref02_put.j1]
        rw [if_pos trivial, if_pos h0, if_pos h1, hx, if_neg d, if_pos (by omega), hw]
    · rw [decide_eq_false c]
      have hd := ih (pre ++ [x]) (out ++ [x]) (by rw [h]; simp) (by simp; omega)
      have he : out ++ ins n (x :: post) = out ++ [x] ++ ins n post := by simp [ins, c]
      rw [he]
      refine Ev.step (fun k => ?_) hd
      simp only [estoversref02_put.j1]
      rw [if_neg (by simp), if_pos h0, if_pos h1, if_pos (by omega), hx, hw]
theorem refput_ev (l : List Int) (n : Int) (hl : l.length ≤ 1000000) : Ev (fun k => estoversref02_put.f k l n) (ins n l) :=
  refput_loop l n hl l [] [] rfl (by simp; omega)

def isEnd (l : List S28) (m : Int) : Prop := ∃ x ∈ l, m = x.f0 ∨ m = x.f1
theorem ends_b (b : List S28) (hb : b.length ≤ 100000) (post : List S28) : ∀ (pre : List S28) (out : List Int), b = pre ++ post → Asc out → out.length + 2 * post.length ≤ 900000 →
    ∃ r, Ev (fun k => estoversref02_ends.l1 k b out (pre.length : Int)) r ∧ Asc r ∧ (∀ m, m ∈ r ↔ m ∈ out ∨ isEnd post m) ∧ r.length ≤ out.length + 2 * post.length := by
  induction post with
  | nil =>
    intro pre out h ho _
    refine ⟨out, Ev.step (f := fun _ => some out) (fun k => ?_) (Ev.now _), ho, fun m => ⟨.inl, fun h => h.elim id (fun ⟨_, h, _⟩ => by cases h)⟩, by simp⟩
    simp only [estoversref02_ends.l1]
    rw [if_neg (by rw [h]; simp)]
  | cons x post ih =>
    intro pre out h ho hl
    simp only [List.length_cons] at hl
    have hlen : b.length = pre.length + (post.length + 1) := by rw [h]; simp
    have hx : rd_T28 b (pre.length : Int) = x := by rw [h]; exact rd_mid pre x post
    have hw : wrap64 ((pre.length : Int) + 1) = ((pre ++ [x]).length : Int) := by rw [wrap_next (by omega) (by omega)]; simp
    have l1 := len_ins x.f0 out
    have l2 := len_ins x.f1 (ins x.f0 out)
    obtain ⟨r, hr, ar, mr, nr⟩ := ih (pre ++ [x]) (ins x.f1 (ins x.f0 out)) (by rw [h]; simp) (asc_ins _ _ (asc_ins _ _ ho)) (by omega)
    have e1 := refput_ev out x.f0 (by omega)
    have e2 := refput_ev (ins x.f0 out) x.f1 (by omega)
    refine ⟨r, Ev.step (f := fun k => (estoversref02_put.f k out x.f0).bind fun t => (estoversref02_put.f k t x.f1).bind fun t => estoversref02_ends.l1 k b t ((pre ++ [x]).length : Int)) (fun k => ?_) (Ev.bind e1 (Ev.bind e2 hr)), ar, fun m => ?_, by simp only [List.length_cons]; omega⟩
    · simp only [estoversref02_ends.l1]
      rw [if_pos (by omega), if_pos (by omega), hx, hw]
    · rw [mr, mem_ins, mem_ins]
      constructor
      · rintro (((h | h) | h) | ⟨y, hy, h⟩)
        · exact .inl h
        · exact .inr ⟨x, List.mem_cons_self, .inl h⟩
        · exact .inr ⟨x, List.mem_cons_self, .inr h⟩
        · exact .inr ⟨y, List.mem_cons_of_mem _ hy, h⟩
      · rintro (h | ⟨y, hy, hm⟩)
        · exact .inl (.inl (.inl h))
        · rcases List.mem_cons.1 hy with e | hy
          · subst e
            rcases hm with e | e
            · exact .inl (.inl (.inr e))
            · exact .inl (.inr e)
          · exact .inr ⟨y, hy, hm⟩
theorem ends_a (a b : List S28) (ha : a.length ≤ 100000) (hb : b.length ≤ 100000) (post : List S28) : ∀ (pre : List S28) (out : List Int), a = pre ++ post → Asc out → out.length + 2 * post.length + 2 * b.length ≤ 900000 →
    ∃ r, Ev (fun k => estoversref02_ends.l0 k a b out (pre.length : Int)) r ∧ Asc r ∧ (∀ m, m ∈ r ↔ m ∈ out ∨ isEnd post m ∨ isEnd b m) ∧ r.length ≤ out.length + 2 * post.length + 2 * b.length := by
  induction post with
  | nil =>
    intro pre out h ho hl
    obtain ⟨r, hr, ar, mr, nr⟩ := ends_b b hb b [] out rfl ho (by simp at hl; omega)
    refine ⟨r, Ev.step (f := fun k => estoversref02_ends.l1 k b out 0) (fun k => ?_) hr, ar, fun m => ?_, by simp; omega⟩
    · simp only [estoversref02_ends.l0]
      rw [if_neg (by rw [h]; simp)]
    · rw [mr]
      exact ⟨fun h => h.imp id .inr, fun h => h.imp id (fun h => h.elim (fun ⟨_, h, _⟩ => by cases h) id)⟩
  | cons x post ih =>
    intro pre out h ho hl
    simp only [List.length_cons] at hl
    have hlen : a.length = pre.length + (post.length + 1) := by rw [h]; simp
    have hx : rd_T28 a (pre.length : Int) = x := by rw [h]; exact rd_mid pre x post
    have hw : wrap64 ((pre.length : Int) + 1) = ((pre ++ [x]).length : Int) := by rw [wrap_next (by omega) (by omega)]; simp
    have l1 := len_ins x.f0 out
    have l2 := len_ins x.f1 (ins x.f0 out)
    obtain ⟨r, hr, ar, mr, nr⟩ := ih (pre ++ [x]) (ins x.f1 (ins x.f0 out)) (by rw [h]; simp) (asc_ins _ _ (asc_ins _ _ ho)) (by omega)
    have e1 := refput_ev out x.f0 (by omega)
    have e2 := refput_ev (ins x.f0 out) x.f1 (by omega)
    refine ⟨r, Ev.step (f := fun k => (estoversref02_put.f k out x.f0).bind fun t => (estoversref02_put.f k t x.f1).bind fun t => estoversref02_ends.l0 k a b t ((pre ++ [x]).length : Int)) (fun k => ?_) (Ev.bind e1 (Ev.bind e2 hr)), ar, fun m => ?_, by simp only [List.length_cons]; omega⟩
    · simp only [estoversref02_ends.l0]
      rw [if_pos (by omega), if_pos (by omega), hx, hw]
    · rw [mr, mem_ins, mem_ins]
      constructor
      · rintro (((h | h) | h) | ⟨y, hy, h⟩ | h)
        · exact .inl h
        · exact .inr (.inl ⟨x, List.mem_cons_self, .inl h⟩)
        · exact .inr (.inl ⟨x, List.mem_cons_self, .inr h⟩)
        · exact .inr (.inl ⟨y, List.mem_cons_of_mem _ hy, h⟩)
        · exact .inr (.inr h)
      · rintro (h | ⟨y, hy, hm⟩ | h)
        · exact .inl (.inl (.inl h))
        · rcases List.mem_cons.1 hy with e | hy
          · subst e
            rcases hm with e | e
            · exact .inl (.inl (.inr e))
            · exact .inl (.inr e)
          · exact .inr (.inl ⟨y, hy, hm⟩)
        · exact .inr (.inr h)
def opB (op : Int) (x y : Bool) : Bool := if op = 0 then x || y else if op = 1 then x && y else x && !y
theorem holds_ev (a b : List S28) (n op : Int) (ha : a.length ≤ maxLen) (hb : b.length ≤ maxLen) : Ev (fun k => estoversref02_holds.f k a b n op) (opB op (memB a n) (memB b n)) := by
  refine Ev.bind (f := fun k x => (estoversref02_In.f k b n).bind fun y => if op = 0 then (if x = true then some true else some y) else (if op = 1 then (if x = true then some y else some false) else (if x = true then some (!y) else some false))) (in_ev a n ha) ?_
  refine Ev.bind (f := fun k y => if op = 0 then (if memB a n = true then some true else some y) else (if op = 1 then (if memB a n = true then some y else some false) else (if memB a n = true then some (!y) else some false))) (in_ev b n hb) ?_
  have : (if op = 0 then (if memB a n = true then some true else some (memB b n)) else (if op = 1 then (if memB a n = true then some (memB b n) else some false) else (if memB a n = true then some (!(memB b n)) else some false))) = some (opB op (memB a n) (memB b n)) := by
    unfold opB
    cases memB a n <;> cases memB b n <;> by_cases h0 : op = 0 <;> by_cases h1 : op = 1 <;> simp [h0, h1]
  rw [this]
  exact Ev.now _
/-- Between two neighbouring ends nothing turns. -/
theorem mem_const (a : List S28) (u v n : Int) (hn : u ≤ n ∧ n < v) (hc : ∀ m, isEnd a m → m ≤ u ∨ v ≤ m) : memB a n = memB a u := by
  rw [Bool.eq_iff_iff, memB_true, memB_true]
  constructor
  · rintro ⟨x, hx, h0, h1⟩
    have h2 := hc x.f0 ⟨x, hx, .inl rfl⟩
    exact ⟨x, hx, by omega, by omega⟩
  · rintro ⟨x, hx, h0, h1⟩
    have h2 := hc x.f1 ⟨x, hx, .inr rfl⟩
    exact ⟨x, hx, by omega, by omega⟩
theorem comb_loop (a b : List S28) (op : Int) (ha : a.length ≤ maxLen) (hb : b.length ≤ maxLen) (p : List Int) (hp : p.length ≤ 900000) (hend : ∀ m, isEnd a m ∨ isEnd b m → m ∈ p) (rest : List Int) : ∀ (pre : List Int) (u : Int) (out : List S28),
    p = pre ++ u :: rest → (∀ m ∈ pre, m ≤ u) → Asc (u :: rest) → Val out → (∀ o ∈ out, o.f1 ≤ u) → (∀ n, mem out n ↔ n < u ∧ opB op (memB a n) (memB b n) = true) → out.length ≤ pre.length →
    ∃ r, Ev (fun k => estoversref02_combine.l0 k a b op p out (pre.length : Int)) r ∧ Val r ∧ (∀ n, mem r n ↔ opB op (memB a n) (memB b n) = true) := by
  induction rest with
  | nil =>
    intro pre u out h hpre _ ho hlt hm hl
    refine ⟨out, Ev.step (f := fun _ => some out) (fun k => ?_) (Ev.now _), ho, fun n => ?_⟩
    · simp only [estoversref02_combine.l0]
      have hlen : p.length = pre.length + 1 := by rw [h]; simp
      rw [if_neg (by rw [wrap_next (by omega) (by omega)]; omega)]
    · rw [hm]
      refine ⟨fun h => h.2, fun g => ⟨?_, g⟩⟩
      have top : ∀ m, m ∈ p → m ≤ u := fun m hm => by
        rw [h] at hm
        rcases List.mem_append.1 hm with hm | hm
        · exact hpre m hm
        · rw [List.mem_singleton.1 hm]; exact Int.le_refl _
      by_cases hn : n < u
      · exact hn
      · have ea : memB a n = false := by
          rw [memB_false]
          rintro ⟨x, hx, h0, h1⟩
          have := top x.f1 (hend _ (.inl ⟨x, hx, .inr rfl⟩))
          omega
        have eb : memB b n = false := by
          rw [memB_false]
          rintro ⟨x, hx, h0, h1⟩
          have := top x.f1 (hend _ (.inr ⟨x, hx, .inr rfl⟩))
          omega
        rw [ea, eb] at g
        unfold opB at g
        simp at g
  | cons v rest ih =>
    intro pre u out h hpre hasc ho hlt hm hl
    have hlen : p.length = pre.length + (rest.length + 1 + 1) := by rw [h]; simp
    have huv : u < v := hasc.1 v List.mem_cons_self
    have hu : rd p (pre.length : Int) = u := by rw [h]; exact rdi_mid pre u (v :: rest)
    have hw : wrap64 ((pre.length : Int) + 1) = ((pre ++ [u]).length : Int) := by rw [wrap_next (by omega) (by omega)]; simp
    have hv : rd p ((pre ++ [u]).length : Int) = v := by rw [h, show pre ++ u :: v :: rest = (pre ++ [u]) ++ v :: rest by simp]; exact rdi_mid _ v rest
    have hl' : ((pre ++ [u]).length : Int) = (pre.length : Int) + 1 := by simp
    have hsplit : ∀ m, m ∈ p → m ≤ u ∨ v ≤ m := fun m hm => by
      rw [h] at hm
      rcases List.mem_append.1 hm with hm | hm
      · exact .inl (hpre m hm)
      · rcases List.mem_cons.1 hm with hm | hm
        · exact .inl (by omega)
        · rcases List.mem_cons.1 hm with hm | hm
          · exact .inr (by omega)
          · have := hasc.2.1 m hm; exact .inr (by omega)
    have hconst : ∀ n, u ≤ n ∧ n < v → opB op (memB a n) (memB b n) = opB op (memB a u) (memB b u) := fun n hn => by
      rw [mem_const a u v n hn (fun m hm => hsplit m (hend m (.inl hm))), mem_const b u v n hn (fun m hm => hsplit m (hend m (.inr hm)))]
    have next := ih (pre ++ [u]) v
    have hpre' : ∀ m ∈ pre ++ [u], m ≤ v := fun m hm => by
      rcases List.mem_append.1 hm with hm | hm
      · have := hpre m hm; omega
      · rw [List.mem_singleton.1 hm]; omega
    have hh := holds_ev a b u op ha hb
    have done : ∀ (o2 : List S28), Val o2 → (∀ o ∈ o2, o.f1 ≤ v) → (∀ n, mem o2 n ↔ n < v ∧ opB op (memB a n) (memB b n) = true) → o2.length ≤ out.length + 1 →
        ∃ r, Ev (fun k => estoversref02_combine.l0 k a b op p o2 ((pre ++ [u]).length : Int)) r ∧ Val r ∧ (∀ n, mem r n ↔ opB op (memB a n) (memB b n) = true) := fun o2 v2 l2 m2 n2 =>
      next o2 (by rw [h]; simp) hpre' hasc.2 v2 l2 m2 (by simp; omega)
    cases hb0 : opB op (memB a u) (memB b u) with
    | false =>
      rw [hb0] at hh hconst
      obtain ⟨r, hr, vr, mr⟩ := done out ho (fun o hm => by have := hlt o hm; omega) (fun n => by
        rw [hm]
        constructor
        · exact fun g => ⟨by omega, g.2⟩
        · intro g
          refine ⟨?_, g.2⟩
          by_cases hn : n < u
          · exact hn
          · have := hconst n ⟨by omega, g.1⟩
            rw [g.2] at this; cases this) (by omega)
      refine ⟨r, Ev.next ?_, vr, mr⟩
      simp only [estoversref02_combine.l0, hw, hu]
      refine Ev.yes (by omega) (Ev.yes (by omega) (Ev.yes (by omega) (Ev.bind hh ?_)))
      exact Ev.no (by simp) hr
    | true =>
      rw [hb0] at hh hconst
      have grow : ∀ (o2 : List S28), (∀ n, mem o2 n ↔ mem out n ∨ (u ≤ n ∧ n < v)) → ∀ n, mem o2 n ↔ n < v ∧ opB op (memB a n) (memB b n) = true := fun o2 hg n => by
        rw [hg, hm]
        constructor
        · rintro (g | g)
          · exact ⟨by omega, g.2⟩
          · exact ⟨g.2, hconst n g⟩
        · intro g
          by_cases hn : n < u
          · exact .inl ⟨hn, g.2⟩
          · exact .inr ⟨by omega, g.1⟩
      rcases List.eq_nil_or_concat out with ho' | ⟨q, y, ho'⟩
      · subst ho'
        obtain ⟨r, hr, vr, mr⟩ := done [⟨u, v⟩] (val_one u v huv) (fun o hm => by rw [List.mem_singleton.1 hm]; exact Int.le_refl _) (grow _ (fun n => by rw [mem_one]; exact ⟨.inr, fun h => h.resolve_left (mem_nil n)⟩)) (by simp)
        refine ⟨r, Ev.next ?_, vr, mr⟩
        simp only [estoversref02_combine.l0, hw, hu, hv]
        refine Ev.yes (by omega) (Ev.yes (by omega) (Ev.yes (by omega) (Ev.bind hh ?_)))
        refine Ev.yes rfl (Ev.no (by simp) (Ev.yes (by omega) (Ev.yes (by simp) ?_)))
        exact hr
      · rw [List.concat_eq_append] at ho'
        have hol : (out.length : Int) = (q.length : Int) + 1 := by rw [ho']; simp
        have how : wrap64 ((out.length : Int) - 1) = (q.length : Int) := by rw [wrap_prev (by omega) (by omega)]; omega
        have hoy : rd_T28 out (q.length : Int) = y := by rw [ho']; exact rd_mid q y []
        rw [ho'] at ho
        obtain ⟨v0, v1, v2⟩ := (val_snoc q y).1 ho
        have hyu := hlt y (by rw [ho']; simp)
        by_cases c : y.f1 = u
        · have hset : out.set (q.length : Int).toNat (⟨y.f0, v⟩ : S28) = q ++ [⟨y.f0, v⟩] := by rw [ho']; simp
          obtain ⟨r, hr, vr, mr⟩ := done (q ++ [⟨y.f0, v⟩]) ((val_snoc _ _).2 ⟨v0, by show y.f0 < v; omega, v2⟩) (fun o hm => by
            rcases List.mem_append.1 hm with hm | hm
            · have := hlt o (by rw [ho']; exact List.mem_append_left _ hm); omega
            · rw [List.mem_singleton.1 hm]; exact Int.le_refl _) (grow _ (fun n => by
            rw [ho', mem_append, mem_append, mem_one, mem_one]
            show mem q n ∨ y.f0 ≤ n ∧ n < v ↔ (mem q n ∨ y.f0 ≤ n ∧ n < y.f1) ∨ u ≤ n ∧ n < v
            constructor
            · rintro (g | g)
              · exact .inl (.inl g)
              · by_cases e : n < u
                · exact .inl (.inr (by omega))
                · exact .inr (by omega)
            · rintro ((g | g) | g)
              · exact .inl g
              · exact .inr (by omega)
              · exact .inr (by omega))) (by rw [ho']; simp)
          refine ⟨r, Ev.next ?_, vr, mr⟩
          simp only [estoversref02_combine.l0, hw, hu, hv, how, hoy, hset]
          refine Ev.yes (by omega) (Ev.yes (by omega) (Ev.yes (by omega) (Ev.bind hh ?_)))
          refine Ev.yes rfl (Ev.yes (by omega) (Ev.yes (by omega) (Ev.yes (by omega) (Ev.yes c (Ev.yes (by omega) ?_)))))
          exact hr
        · obtain ⟨r, hr, vr, mr⟩ := done (out ++ [⟨u, v⟩]) (by
            rw [ho']
            refine (val_snoc _ _).2 ⟨ho, huv, fun o hm => ?_⟩
            show o.f1 < u
            rcases List.mem_append.1 hm with hm | hm
            · have := v2 o hm; omega
            · rw [List.mem_singleton.1 hm]; omega) (fun o hm => by
            rcases List.mem_append.1 hm with hm | hm
            · have := hlt o hm; omega
            · rw [List.mem_singleton.1 hm]; exact Int.le_refl _) (grow _ (fun n => by rw [mem_append, mem_one])) (by simp)
          refine ⟨r, Ev.next ?_, vr, mr⟩
          simp only [estoversref02_combine.l0, hw, hu, hv, how, hoy]
          refine Ev.yes (by omega) (Ev.yes (by omega) (Ev.yes (by omega) (Ev.bind hh ?_)))
          refine Ev.yes rfl (Ev.yes (by omega) (Ev.yes (by omega) (Ev.yes (by omega) (Ev.no c (Ev.yes (by omega) (Ev.yes (by omega) ?_))))))
          exact hr
theorem combine_ev (a b : List S28) (op : Int) (ha : a.length ≤ 100000) (hb : b.length ≤ 100000) :
    ∃ r, Ev (fun k => estoversref02_combine.f k a b op) r ∧ Val r ∧ (∀ n, mem r n ↔ opB op (memB a n) (memB b n) = true) := by
  obtain ⟨p, hp, ap, mp, np⟩ := ends_a a b ha hb a [] [] rfl trivial (by simp; omega)
  cases p with
  | nil =>
    refine ⟨[], Ev.bind (f := fun k t => estoversref02_combine.l0 k a b op t [] 0) hp (Ev.step (f := fun _ => some []) (fun k => ?_) (Ev.now _)), trivial, fun n => ?_⟩
    · simp only [estoversref02_combine.l0]
      rw [if_neg (by rw [show wrap64 (0 + 1) = 1 by unfold wrap64; omega]; simp)]
    · have ea : memB a n = false := by
        rw [memB_false]
        rintro ⟨x, hx, h0, h1⟩
        exact absurd ((mp x.f1).2 (.inr (.inl ⟨x, hx, .inr rfl⟩))) (by simp)
      have eb : memB b n = false := by
        rw [memB_false]
        rintro ⟨x, hx, h0, h1⟩
        exact absurd ((mp x.f1).2 (.inr (.inr ⟨x, hx, .inr rfl⟩))) (by simp)
      rw [ea, eb]
      unfold opB
      simp [mem_nil]
  | cons u rest =>
    obtain ⟨r, hr, vr, mr⟩ := comb_loop a b op (by unfold maxLen; omega) (by unfold maxLen; omega) (u :: rest) (by simp at np ⊢; omega) (fun m hm => (mp m).2 (.inr hm)) rest [] u [] rfl (fun _ h => by cases h) ap trivial (fun _ h => by cases h) (fun n => ⟨fun h => absurd h (mem_nil n), fun g => by
      exfalso
      have low : ∀ m, isEnd a m ∨ isEnd b m → u ≤ m := fun m hm => by
        rcases List.mem_cons.1 ((mp m).2 (.inr hm)) with h | h
        · omega
        · have := ap.1 m h; omega
      have ea : memB a n = false := by
        rw [memB_false]
        rintro ⟨x, hx, h0, h1⟩
        have := low x.f0 (.inl ⟨x, hx, .inl rfl⟩); omega
      have eb : memB b n = false := by
        rw [memB_false]
        rintro ⟨x, hx, h0, h1⟩
        have := low x.f0 (.inr ⟨x, hx, .inl rfl⟩); omega
      have := g.2
      rw [ea, eb] at this
      unfold opB at this
      simp at this⟩) (Nat.le_refl _)
    exact ⟨r, Ev.bind (f := fun k t => estoversref02_combine.l0 k a b op t [] 0) hp hr, vr, mr⟩
end Go.Proofs.Ytkgknibciclmjaa.I

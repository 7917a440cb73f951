/- What the two checks of a list, and the two tests of membership, answer: over lists alone. -/
import Derived.Test.YtkgknibciclmjaaIA
import Derived.Test.YtkgknibciclmjaaI4
import Derived.Test.YtkgknibciclmjaaI18
import Derived.Test.YtkgknibciclmjaaI6
import Derived.Test.YtkgknibciclmjaaI19
import Derived.Test.YtkgknibciclmjaaI20
set_option linter.unusedSimpArgs false
set_option linter.unusedVariables false
namespace Go.Proofs.Ytkgknibciclmjaa.I
open Go.RowKit Go.Proofs.YtkgknibciclmjaaW.PrintWords Go.Proofs.YtkgknibciclmjaaW.PrintLast

def prevOf (pre : List S28) : Option Int := pre.getLast?.map (·.f1)
theorem prevOf_snoc (pre : List S28) (x : S28) : prevOf (pre ++ [x]) = some x.f1 := by simp [prevOf]
theorem prev_cases (pre : List S28) : (pre = [] ∧ prevOf pre = none) ∨ ∃ p y, pre = p ++ [y] ∧ prevOf pre = some y.f1 := by
  rcases List.eq_nil_or_concat pre with rfl | ⟨p, y, rfl⟩
  · exact .inl ⟨rfl, rfl⟩
  · exact .inr ⟨p, y, by simp, by simp [prevOf]⟩

theorem check_loop (l : List S28) (hl : l.length ≤ maxLen) (post : List S28) : ∀ (pre : List S28), l = pre ++ post →
    Ev (fun k => interval_Check.l0 k l l (l.length : Int) (pre.length : Int)) (chk (prevOf pre) post) := by
  unfold maxLen at hl
  induction post with
  | nil =>
    intro pre h
    refine Ev.step (f := fun _ => some 0) (fun k => ?_) (Ev.now _)
    simp only [interval_Check.l0]
    rw [if_neg (by rw [h]; simp)]
  | cons x post ih =>
    intro pre h
    have hlen : l.length = pre.length + (post.length + 1) := by rw [h]; simp
    have hx : rd_T28 l (pre.length : Int) = x := by rw [h]; exact rd_mid pre x post
    have hw : wrap64 ((pre.length : Int) + 1) = ((pre ++ [x]).length : Int) := by rw [wrap_next (by omega) (by omega)]; simp
    have ih' := ih (pre ++ [x]) (by rw [h]; simp)
    rw [prevOf_snoc] at ih'
    have h1 : (pre.length : Int) < (l.length : Int) := by omega
    have h0 : (0 : Int) ≤ (pre.length : Int) := by omega
    by_cases c : x.f0 ≥ x.f1
    · refine Ev.step (f := fun _ => some 2) (fun k => ?_) (by simp only [chk, if_pos c]; exact Ev.now _)
      simp only [interval_Check.l0]
      rw [if_pos h1, if_pos h0, if_pos h1, hx, if_pos c]
    · rcases prev_cases pre with ⟨hp, he⟩ | ⟨p, y, hp, he⟩
      · rw [he]
        refine Ev.step (f := fun k => interval_Check.l0 k l l (l.length : Int) ((pre ++ [x]).length : Int)) (fun k => ?_) (by simp only [chk, if_neg c]; rw [if_neg (by simp)]; exact ih')
        simp only [interval_Check.l0]
        rw [if_pos h1, if_pos h0, if_pos h1, hx, if_neg c, if_neg (by rw [hp]; simp), hw]
      · rw [he]
        have hpl : pre.length = p.length + 1 := by rw [hp]; simp
        have hpos : (pre.length : Int) > 0 := by omega
        have hwp : wrap64 ((pre.length : Int) - 1) = (p.length : Int) := by rw [wrap_prev (by omega) (by omega)]; omega
        have hy : rd_T28 l (p.length : Int) = y := by rw [h, hp]; simp [rd_T28]
        by_cases d : x.f0 ≤ y.f1
        · refine Ev.step (f := fun _ => some 10) (fun k => ?_) (by simp only [chk, if_neg c]; rw [if_pos (by simpa using d)]; exact Ev.now _)
          simp only [interval_Check.l0]
          rw [if_pos h1, if_pos h0, if_pos h1, hx, if_neg c, if_pos hpos, hwp, if_pos (by omega), if_pos (by omega), hy, if_pos d]
        · refine Ev.step (f := fun k => interval_Check.l0 k l l (l.length : Int) ((pre ++ [x]).length : Int)) (fun k => ?_) (by simp only [chk, if_neg c]; rw [if_neg (by simpa using d)]; exact ih')
          simp only [interval_Check.l0]
          rw [if_pos h1, if_pos h0, if_pos h1, hx, if_neg c, if_pos hpos, hwp, if_pos (by omega), if_pos (by omega), hy, if_neg d, hw]
theorem check_ev (l : List S28) (hl : l.length ≤ maxLen) : Ev (fun k => interval_Check.f k l) (chk none l) := by
  have h := check_loop l hl l [] rfl
  exact h
theorem refcheck_loop (l : List S28) (hl : l.length ≤ maxLen) (post : List S28) : ∀ (pre : List S28), l = pre ++ post →
    Ev (fun k => estoversref02_Check.l0 k l (pre.length : Int)) (chk (prevOf pre) post) := by
  unfold maxLen at hl
  induction post with
  | nil =>
    intro pre h
    refine Ev.step (f := fun _ => some 0) (fun k => ?_) (Ev.now _)
    simp only [estoversref02_Check.l0]
    rw [if_neg (by rw [h]; simp)]
  | cons x post ih =>
    intro pre h
    have hlen : l.length = pre.length + (post.length + 1) := by rw [h]; simp
    have hx : rd_T28 l (pre.length : Int) = x := by rw [h]; exact rd_mid pre x post
    have hw : wrap64 ((pre.length : Int) + 1) = ((pre ++ [x]).length : Int) := by rw [wrap_next (by omega) (by omega)]; simp
    have ih' := ih (pre ++ [x]) (by rw [h]; simp)
    rw [prevOf_snoc] at ih'
    have h1 : (pre.length : Int) < (l.length : Int) := by omega
    have h0 : (0 : Int) ≤ (pre.length : Int) := by omega
    by_cases c : x.f0 ≥ x.f1
    · refine Ev.step (f := fun _ => some 2) (fun k => ?_) (by simp only [chk, if_pos c]; exact Ev.now _)
      simp only [estoversref02_Check.l0]
      rw [if_pos h1, if_pos h0, hx, if_pos c]
    · rcases prev_cases pre with ⟨hp, he⟩ | ⟨p, y, hp, he⟩
      · rw [he]
        refine Ev.step (f := fun k => estoversref02_Check.l0 k l ((pre ++ [x]).length : Int)) (fun k => ?_) (by simp only [chk, if_neg c]; rw [if_neg (by simp)]; exact ih')
        simp only [estoversref02_Check.l0]
        rw [if_pos h1, if_pos h0, hx, if_neg c, if_neg (by rw [hp]; simp), hw]
      · rw [he]
        have hpl : pre.length = p.length + 1 := by rw [hp]; simp
        have hpos : (pre.length : Int) > 0 := by omega
        have hwp : wrap64 ((pre.length : Int) - 1) = (p.length : Int) := by rw [wrap_prev (by omega) (by omega)]; omega
        have hy : rd_T28 l (p.length : Int) = y := by rw [h, hp]; simp [rd_T28]
        by_cases d : x.f0 ≤ y.f1
        · refine Ev.step (f := fun _ => some 10) (fun k => ?_) (by simp only [chk, if_neg c]; rw [if_pos (by simpa using d)]; exact Ev.now _)
          simp only [estoversref02_Check.l0]
          rw [if_pos h1, if_pos h0, hx, if_neg c, if_pos hpos, hwp, if_pos (by omega), if_pos (by omega), hy, if_pos d]
        · refine Ev.step (f := fun k => estoversref02_Check.l0 k l ((pre ++ [x]).length : Int)) (fun k => ?_) (by simp only [chk, if_neg c]; rw [if_neg (by simpa using d)]; exact ih')
          simp only [estoversref02_Check.l0]
          rw [if_pos h1, if_pos h0, hx, if_neg c, if_pos hpos, hwp, if_pos (by omega), if_pos (by omega), hy, if_neg d, hw]
theorem refcheck_ev (l : List S28) (hl : l.length ≤ maxLen) : Ev (fun k => estoversref02_Check.f k l) (chk none l) := by
  have h := refcheck_loop l hl l [] rfl
  exact h

open Classical in
/-- Membership, as the loop finds it. -/
noncomputable def memB (l : List S28) (n : Int) : Bool := decide (mem l n)
theorem memB_cons (x : S28) (l : List S28) (n : Int) : memB (x :: l) n = (decide (x.f0 ≤ n ∧ n < x.f1) || memB l n) := by
  unfold memB
  by_cases h : x.f0 ≤ n ∧ n < x.f1 <;> by_cases g : mem l n <;> simp [mem_cons, h, g]
theorem memB_nil (n : Int) : memB [] n = false := by
  unfold memB; simp [mem_nil]
theorem memB_true {l : List S28} {n : Int} : memB l n = true ↔ mem l n := by unfold memB; simp
theorem memB_false {l : List S28} {n : Int} : memB l n = false ↔ ¬ mem l n := by unfold memB; simp
theorem in_loop (l : List S28) (n : Int) (hl : l.length ≤ maxLen) (post : List S28) : ∀ (pre : List S28), l = pre ++ post →
    Ev (fun k => estoversref02_In.l0 k l n (pre.length : Int)) (memB post n) := by
  unfold maxLen at hl
  induction post with
  | nil =>
    intro pre h
    rw [memB_nil]
    refine Ev.step (f := fun _ => some false) (fun k => ?_) (Ev.now _)
    simp only [estoversref02_In.l0]
    rw [if_neg (by rw [h]; simp)]
  | cons x post ih =>
    intro pre h
    have hlen : l.length = pre.length + (post.length + 1) := by rw [h]; simp
    have hx : rd_T28 l (pre.length : Int) = x := by rw [h]; exact rd_mid pre x post
    have hw : wrap64 ((pre.length : Int) + 1) = ((pre ++ [x]).length : Int) := by rw [wrap_next (by omega) (by omega)]; simp
    have ih' := ih (pre ++ [x]) (by rw [h]; simp)
    have h1 : (pre.length : Int) < (l.length : Int) := by omega
    have h0 : (0 : Int) ≤ (pre.length : Int) := by omega
    rw [memB_cons]
    by_cases c : x.f0 ≤ n
    · by_cases d : n < x.f1
      · rw [show decide (x.f0 ≤ n ∧ n < x.f1) = true by simp [c, d], Bool.true_or]
        refine Ev.step (f := fun _ => some true) (fun k => ?_) (Ev.now _)
        simp only [estoversref02_In.l0]
        rw [if_pos h1, if_pos h0, hx, if_pos c, if_pos d]
      · rw [show decide (x.f0 ≤ n ∧ n < x.f1) = false by simp [d], Bool.false_or]
        refine Ev.step (fun k => ?_) ih'
        simp only [estoversref02_In.l0]
        rw [if_pos h1, if_pos h0, hx, if_pos c, if_neg d, hw]
    · rw [show decide (x.f0 ≤ n ∧ n < x.f1) = false by simp [c], Bool.false_or]
      refine Ev.step (fun k => ?_) ih'
      simp only [estoversref02_In.l0]
      rw [if_pos h1, if_pos h0, hx, if_neg c, hw]
theorem in_ev (l : List S28) (n : Int) (hl : l.length ≤ maxLen) : Ev (fun k => estoversref02_In.f k l n) (memB l n) := by
  have h := in_loop l n hl l [] rfl
  exact h

/-- Binary search: the first place from which on p holds. -/
theorem srch_ev (p : Int → Bool) (n : Nat) (hp : ∀ i j : Int, 0 ≤ i → i ≤ j → j < n → p i = true → p j = true) : ∀ (d : Nat) (i j : Int), 0 ≤ i → i ≤ j → j ≤ n → (j - i).toNat ≤ d →
    (∀ t : Int, 0 ≤ t → t < i → p t = false) → (∀ t : Int, j ≤ t → t < n → p t = true) →
    ∃ r, Ev (fun k => interval_Contains.srch p k i j) r ∧ 0 ≤ r ∧ r ≤ n ∧ (∀ t : Int, 0 ≤ t → t < r → p t = false) ∧ (∀ t : Int, r ≤ t → t < n → p t = true) := by
  intro d
  induction d with
  | zero =>
    intro i j h0 h1 h2 hd hi hj
    obtain rfl : i = j := by omega
    refine ⟨i, Ev.step (f := fun _ => some i) (fun k => ?_) (Ev.now _), h0, h2, hi, hj⟩
    simp only [interval_Contains.srch]
    rw [if_neg (by omega)]
  | succ d ih =>
    intro i j h0 h1 h2 hd hi hj
    by_cases hij : i < j
    · by_cases hm : p ((i + j) / 2) = true
      · obtain ⟨r, hr, hrest⟩ := ih i ((i + j) / 2) h0 (by omega) (by omega) (by omega) hi (fun t ht htn => hp _ t (by omega) ht htn hm)
        refine ⟨r, Ev.step (fun k => ?_) hr, hrest⟩
        simp only [interval_Contains.srch]
        rw [if_pos hij, if_pos hm]
      · obtain ⟨r, hr, hrest⟩ := ih ((i + j) / 2 + 1) j (by omega) (by omega) h2 (by omega) (fun t ht htm => by
          by_cases ht2 : p t = true
          · exact absurd (hp t _ ht (by omega) (by omega) ht2) hm
          · simpa using ht2) hj
        refine ⟨r, Ev.step (fun k => ?_) hr, hrest⟩
        simp only [interval_Contains.srch]
        rw [if_pos hij, if_neg hm]
    · obtain rfl : i = j := by omega
      refine ⟨i, Ev.step (f := fun _ => some i) (fun k => ?_) (Ev.now _), h0, h2, hi, hj⟩
      simp only [interval_Contains.srch]
      rw [if_neg hij]
theorem rd_get (l : List S28) (i : Int) (h0 : 0 ≤ i) (h1 : i < l.length) : ∃ pre x post, l = pre ++ x :: post ∧ (pre.length : Int) = i ∧ rd_T28 l i = x := by
  have hlt : i.toNat < l.length := by omega
  refine ⟨l.take i.toNat, l[i.toNat], l.drop (i.toNat + 1), by simp, by simp; omega, ?_⟩
  simp [rd_T28, hlt]
theorem val_lt (l : List S28) (h : Val l) (i j : Int) (h0 : 0 ≤ i) (hij : i < j) (hj : j < l.length) : (rd_T28 l i).f1 < (rd_T28 l j).f0 := by
  induction l generalizing i j with
  | nil => simp at hj; omega
  | cons x xs ih =>
    have hjs : rd_T28 (x :: xs) j = rd_T28 xs (j - 1) := by
      unfold rd_T28
      rw [show j.toNat = (j - 1).toNat + 1 by omega]; rfl
    rw [hjs]
    have hj' : j - 1 < xs.length := by simp at hj; omega
    by_cases hi : i = 0
    · subst hi
      obtain ⟨pre, y, post, hl, hp, hy⟩ := rd_get xs (j - 1) (by omega) hj'
      rw [hy]
      exact h.2.1 y (by rw [hl]; simp)
    · have his : rd_T28 (x :: xs) i = rd_T28 xs (i - 1) := by
        unfold rd_T28
        rw [show i.toNat = (i - 1).toNat + 1 by omega]; rfl
      rw [his]
      exact ih h.2.2 (i - 1) (j - 1) (by omega) (by omega) hj'
theorem rd_mem (l : List S28) (i : Int) (h0 : 0 ≤ i) (h1 : i < l.length) : rd_T28 l i ∈ l := by
  obtain ⟨pre, y, post, hl, hp, hy⟩ := rd_get l i h0 h1
  rw [hy, hl]; simp
theorem mem_rd (l : List S28) (n : Int) : mem l n ↔ ∃ i : Int, 0 ≤ i ∧ i < l.length ∧ (rd_T28 l i).f0 ≤ n ∧ n < (rd_T28 l i).f1 := by
  constructor
  · rintro ⟨x, hx, h⟩
    obtain ⟨i, hi, rfl⟩ := List.getElem_of_mem hx
    exact ⟨(i : Int), by omega, by omega, by simpa [rd_T28, hi] using h⟩
  · rintro ⟨i, h0, h1, h⟩
    exact ⟨_, rd_mem l i h0 h1, h⟩
theorem contains_ev (l : List S28) (n : Int) (hl : (l.length : Int) ≤ 4611686018427387903) : Ev (fun k => interval_Contains.f k l n) (decide (chk none l = 0) && memB l n) := by
  have hl' : l.length ≤ maxLen := by unfold maxLen; omega
  refine Ev.bind (f := fun k t => if t = 0 then _ else some false) (check_ev l hl') ?_
  by_cases hc : chk none l = 0
  · simp only [if_pos hc, if_pos hl]
    have hv := (chk_val l).1 hc
    obtain ⟨r, hr, r0, rn, hlo, hhi⟩ := srch_ev (fun i => decide ((rd_T28 l i).f1 > n)) l.length (fun i j h0 hij hj hp => by
      by_cases e : i = j
      · rw [← e]; exact hp
      · have h1 := val_lt l hv i j h0 (by omega) hj
        have h2 := hv.pos _ (rd_mem l j (by omega) hj)
        simp at hp ⊢
        omega) l.length 0 l.length (by omega) (by omega) (by omega) (by omega) (fun t h0 h1 => by omega) (fun t h0 h1 => by omega)
    refine Ev.bind (f := fun k j => if j < (l.length : Int) then (if 0 ≤ j then some (decide ((rd_T28 l j).f0 ≤ n)) else none) else some false) hr ?_
    rw [show decide (chk none l = 0) = true by simp [hc], Bool.true_and]
    by_cases hrl : r < (l.length : Int)
    · simp only [if_pos hrl, if_pos r0]
      have : memB l n = decide ((rd_T28 l r).f0 ≤ n) := by
        rw [Bool.eq_iff_iff, memB_true, mem_rd]
        simp only [decide_eq_true_eq]
        have hp := hhi r (by omega) hrl
        simp at hp
        constructor
        · rintro ⟨i, h0, h1, h2, h3⟩
          rcases Int.lt_trichotomy i r with hlt | rfl | hlt
          · have := hlo i h0 hlt
            simp at this
            omega
          · exact h2
          · have h4 := val_lt l hv r i r0 hlt h1
            have h5 := hv.pos _ (rd_mem l r r0 hrl)
            omega
        · intro h
          exact ⟨r, r0, hrl, h, by omega⟩
      rw [this]
      exact Ev.now _
    · simp only [if_neg hrl]
      have : memB l n = false := by
        rw [memB_false, mem_rd]
        rintro ⟨i, h0, h1, h2, h3⟩
        have := hlo i h0 (by omega)
        simp at this
        omega
      rw [this]
      exact Ev.now _
  · rw [show decide (chk none l = 0) = false by simp [hc], Bool.false_and]
    exact Ev.no hc (Ev.now _)
theorem refcontains_ev (l : List S28) (n : Int) (hl : l.length ≤ maxLen) : Ev (fun k => estoversref02_Contains.f k l n) (decide (chk none l = 0) && memB l n) := by
  refine Ev.bind (f := fun k t => if t = 0 then (estoversref02_In.f k l n).bind fun t => some t else some false) (refcheck_ev l hl) ?_
  by_cases hc : chk none l = 0
  · rw [show decide (chk none l = 0) = true by simp [hc], Bool.true_and]
    refine Ev.yes hc ?_
    exact Ev.bind (f := fun _ t => some t) (in_ev l n hl) (Ev.now _)
  · rw [show decide (chk none l = 0) = false by simp [hc], Bool.false_and]
    exact Ev.no hc (Ev.now _)
end Go.Proofs.Ytkgknibciclmjaa.I

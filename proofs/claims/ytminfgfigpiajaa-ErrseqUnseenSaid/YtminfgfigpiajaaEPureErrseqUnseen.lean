/- The law ErrseqUnseen over numbers: what the printed functions answer. -/
import Derived.Test.YtminfgfigpiajaaEQErrseqUnseen
set_option linter.unusedSimpArgs false
set_option linter.unusedVariables false
namespace Go.Proofs.Ytminfgfigpiajaa.E
open Go.RowKit Go.Proofs.YtminfgfigpiajaaW.PrintWords Go.Proofs.YtminfgfigpiajaaW.PrintLast

theorem awake_ErrseqUnseen : estoverslaw29_awake.f 5 = some true := by decide +kernel
theorem awk_ErrseqUnseen (k : Nat) (h : 5 ≤ k) : estoverslaw29_awake.f k = some true := by
  induction k with
  | zero => omega
  | succ k ih =>
    rcases Nat.lt_or_ge k 5 with h0 | h0
    · have : k = 4 := by omega
      subst this; exact awake_ErrseqUnseen
    · exact estoverslaw29_awake.mono k _ (ih h0)
theorem valid_yes_ErrseqUnseen (a : Int) (b : Bool) (h0 : 0 ≤ a) (h1 : a ≤ 1073741824) (h2 : b = true → a ≠ 0) : errseq_Valid.f a b = some true := by
  unfold errseq_Valid.f
  rw [if_pos (show a ≥ 0 from h0), if_pos h1]
  cases b with
  | true => simp [h2 rfl]
  | false => simp
theorem valid_no_ErrseqUnseen (a : Int) (b : Bool) (h : ¬ (0 ≤ a ∧ a ≤ 1073741824 ∧ (b = true → a ≠ 0))) : errseq_Valid.f a b = some false := by
  unfold errseq_Valid.f
  by_cases h0 : a ≥ 0
  · by_cases h1 : a ≤ 1073741824
    · cases b with
      | true =>
        have h4 : a = 0 := by
          by_cases e : a = 0
          · exact e
          · exact absurd ⟨h0, h1, fun _ => e⟩ h
        subst h4; simp
      | false => exact absurd ⟨h0, h1, fun e => by cases e⟩ h
    · rw [if_pos h0, if_neg h1]
  · rw [if_neg h0]
theorem check_bad_ErrseqUnseen (k : Nat) (a : Int) (b : Bool) (c : Int) (hv : errseq_Valid.f a b = some false) : errseq_Check.f k a b c = some (0, false, 0, 1) := by
  unfold errseq_Check.f; rw [hv]; rfl
theorem check_range_ErrseqUnseen (k : Nat) (a : Int) (b : Bool) (c : Int) (hv : errseq_Valid.f a b = some true) (h : c < 0 ∨ c > a) : errseq_Check.f (k + 1) a b c = some (0, false, 0, 2) := by
  unfold errseq_Check.f; rw [hv]; simp only [errseq_Check.j0]
  by_cases h0 : c < 0
  · simp [h0]
  · have h1 : c > a := by omega
    simp [h0, h1]
theorem check_same_ErrseqUnseen (k : Nat) (a : Int) (b : Bool) (hv : errseq_Valid.f a b = some true) (h : 0 ≤ a) : errseq_Check.f (k + 1) a b a = some (a, b, a, 0) := by
  unfold errseq_Check.f; rw [hv]; simp only [errseq_Check.j0]
  have h0 : ¬ (a < 0) := by omega
  simp [h0]
theorem check_io_ErrseqUnseen (k : Nat) (a : Int) (b : Bool) (c : Int) (hv : errseq_Valid.f a b = some true) (h : 0 ≤ c) (h1 : c < a) : errseq_Check.f (k + 1) a b c = some (a, true, a, 15) := by
  unfold errseq_Check.f; rw [hv]; simp only [errseq_Check.j0]
  have h0 : ¬ (c < 0) := by omega
  have h2 : ¬ (c > a) := by omega
  have h3 : ¬ (c = a) := by omega
  simp [h0, h2, h3]
theorem sample_fresh_ErrseqUnseen (a : Int) (hv : errseq_Valid.f a false = some true) (h : 0 < a) (h1 : a ≤ 1073741824) : errseq_Sample.f a false = some (a - 1, 0) := by
  unfold errseq_Sample.f errseq_fresh.f; rw [hv]
  have hw : wrap64 (a - 1) = a - 1 := by unfold wrap64; omega
  have h' : a > 0 := h
  simp [h', hw]
theorem sample_else_ErrseqUnseen (a : Int) (b : Bool) (hv : errseq_Valid.f a b = some true) (h : ¬ (0 < a ∧ b = false)) : errseq_Sample.f a b = some (a, 0) := by
  unfold errseq_Sample.f errseq_fresh.f; rw [hv]
  by_cases h0 : a > 0
  · cases b with
    | true => simp [h0]
    | false => exact absurd ⟨h0, rfl⟩ h
  · simp [h0]
theorem sample_bad_ErrseqUnseen (a : Int) (b : Bool) (hv : errseq_Valid.f a b = some false) : errseq_Sample.f a b = some (0, 1) := by
  unfold errseq_Sample.f; rw [hv]; rfl
theorem set_fresh_ErrseqUnseen (a : Int) (hv : errseq_Valid.f a false = some true) (h : 0 < a) : errseq_Set.f a false = some (a, false, 0) := by
  unfold errseq_Set.f errseq_fresh.f; rw [hv]
  have h' : a > 0 := h
  simp [h']
theorem set_full_ErrseqUnseen : errseq_Set.f 1073741824 true = some (0, false, 9) := by rfl
theorem set_more_ErrseqUnseen (a : Int) (b : Bool) (hv : errseq_Valid.f a b = some true) (h : ¬ (0 < a ∧ b = false)) (h1 : 0 ≤ a) (h2 : a < 1073741824) : errseq_Set.f a b = some (a + 1, false, 0) := by
  unfold errseq_Set.f errseq_fresh.f; rw [hv]
  have hw : wrap64 (a + 1) = a + 1 := by unfold wrap64; omega
  have h3 : ¬ (a = 1073741824) := by omega
  by_cases h0 : a > 0
  · cases b with
    | true => simp [h0, h3, hw]
    | false => exact absurd ⟨h0, rfl⟩ h
  · simp [h0, h3, hw]
theorem estoverslaw29_ErrseqUnseen.pure : estoverslaw29_ErrseqUnseen.Pure := by
  intro a b ha
  have w (k : Nat) (h : 5 ≤ k) := awk_ErrseqUnseen k h
  refine ⟨10, ?_⟩
  unfold estoverslaw29_ErrseqUnseen.f
  by_cases hv : 0 ≤ a ∧ a ≤ 1073741824 ∧ (b = true → a ≠ 0)
  case neg =>
    rw [sample_bad_ErrseqUnseen a b (valid_no_ErrseqUnseen a b hv)]
    simp [w]
  have v := valid_yes_ErrseqUnseen a b hv.1 hv.2.1 hv.2.2
  by_cases hf : 0 < a ∧ b = false
  · obtain ⟨h0, rfl⟩ := hf
    have v1 : errseq_Valid.f a true = some true := valid_yes_ErrseqUnseen a true hv.1 hv.2.1 (fun _ => by omega)
    have h0' : a > 0 := h0
    rw [sample_fresh_ErrseqUnseen a v h0 hv.2.1]
    simp only [Option.bind_some, if_true]
    rw [check_io_ErrseqUnseen 9 a false (a - 1) v (by omega) (by omega)]
    simp only [Option.bind_some]
    rw [if_pos h0', if_pos trivial, if_neg (by decide), if_neg (by decide)]
    show estoverslaw29_ErrseqUnseen.j0 10 false a true = some true
    simp only [estoverslaw29_ErrseqUnseen.j0]
    rw [if_neg (by decide), sample_else_ErrseqUnseen a true v1 (fun e => by simp at e)]
    simp only [Option.bind_some]
    rw [check_same_ErrseqUnseen 8 a true v1 hv.1]
    simp [w]
  · rw [sample_else_ErrseqUnseen a b v hf]
    simp only [Option.bind_some, if_true]
    rw [check_same_ErrseqUnseen 9 a b v hv.1]
    simp only [Option.bind_some]
    have hj : estoverslaw29_ErrseqUnseen.j0 10 false a b = some true := by
      simp only [estoverslaw29_ErrseqUnseen.j0]
      rw [if_neg (by decide), sample_else_ErrseqUnseen a b v hf]
      simp only [Option.bind_some]
      rw [check_same_ErrseqUnseen 8 a b v hv.1]
      simp [w]
    by_cases h0 : a > 0
    · cases b with
      | true => simp [h0, hj]
      | false => exact absurd ⟨h0, rfl⟩ hf
    · simp [h0, hj]

end Go.Proofs.Ytminfgfigpiajaa.E

/- The law IntervalFirst over lists: the ints of the first gap are free and between the bounds, and every gap that begins earlier is too short. -/
import Derived.Test.YtkgknibciclmjaaIQIntervalFirst
import Derived.Test.YtkgknibciclmjaaIAL
import Derived.Test.YtkgknibciclmjaaIAS
import Derived.Test.YtkgknibciclmjaaIAF
set_option linter.unusedSimpArgs false
set_option linter.unusedVariables false
namespace Go.Proofs.Ytkgknibciclmjaa.I
open Go.RowKit Go.Proofs.YtkgknibciclmjaaW.PrintWords Go.Proofs.YtkgknibciclmjaaW.PrintLast

/-- An int of 64 bits. -/
def I64 (a : Int) : Prop := -9223372036854775808 ≤ a ∧ a ≤ 9223372036854775807
theorem i64_of {a : Int} (h : (Lit.int .i64 a).wf = true) : I64 a := by
  simp only [Lit.wf, IntKind.min, IntKind.max, IntKind.signed, IntKind.bits, Bool.and_eq_true, decide_eq_true_eq, if_true] at h
  unfold I64
  omega
theorem u64_diff (a b : Int) (ha : I64 a) (hb : I64 b) (h : a ≤ b) : IntKind.u64.wrap (IntKind.u64.wrap b - IntKind.u64.wrap a) = b - a := by
  unfold I64 at ha hb
  simp only [IntKind.wrap, IntKind.signed, IntKind.bits]
  simp
  omega
theorem u64_small (n : Int) (h : 1 ≤ n) (h' : n ≤ 30) : IntKind.u64.wrap n = n := by
  simp only [IntKind.wrap, IntKind.signed, IntKind.bits]
  simp
  omega
theorem fits_iff (x : S28) (n : Int) (h0 : I64 x.f0) (h1 : I64 x.f1) (hx : x.f0 ≤ x.f1) (h : 1 ≤ n) (h' : n ≤ 30) : fits x n ↔ n ≤ x.f1 - x.f0 := by
  unfold fits
  rw [u64_diff _ _ h0 h1 hx, u64_small n h h']
/-- What the first fitting interval says. -/
theorem firstFit_some (n : Int) (l : List S28) (h : (firstFit n l).2 = 0) : ∃ x ∈ l, fits x n ∧ (firstFit n l).1 = x.f0 := by
  induction l with
  | nil => cases h
  | cons x xs ih =>
    simp only [firstFit] at h ⊢
    by_cases c : fits x n
    · rw [if_pos c]
      exact ⟨x, List.mem_cons_self, c, rfl⟩
    · rw [if_neg c] at h ⊢
      obtain ⟨y, hy, h1, h2⟩ := ih h
      exact ⟨y, List.mem_cons_of_mem _ hy, h1, h2⟩
theorem firstFit_kind (n : Int) (l : List S28) : (firstFit n l).2 = 0 ∨ firstFit n l = (0, 6) := by
  induction l with
  | nil => exact .inr rfl
  | cons x xs ih =>
    simp only [firstFit]
    by_cases c : fits x n
    · rw [if_pos c]; exact .inl rfl
    · rw [if_neg c]; exact ih
theorem firstFit_least (n : Int) (l : List S28) (hv : Val l) : ∀ y ∈ l, fits y n → (firstFit n l).2 = 0 ∧ (firstFit n l).1 ≤ y.f0 := by
  induction l with
  | nil => intro y hy; cases hy
  | cons x xs ih =>
    intro y hy hf
    simp only [firstFit]
    by_cases c : fits x n
    · rw [if_pos c]
      refine ⟨rfl, ?_⟩
      rcases List.mem_cons.1 hy with rfl | hy
      · exact Int.le_refl _
      · have := hv.2.1 y hy; have := hv.1; show x.f0 ≤ y.f0; omega
    · rw [if_neg c]
      rcases List.mem_cons.1 hy with rfl | hy
      · exact absurd hf c
      · exact ih hv.2.2 y hy hf
theorem first_skip (s : List S28) (lo hi n : Int) : Ev (fun k => estoverslaw02_IntervalFirst.j0 k s true lo hi n) true := by
  refine Ev.next ?_
  simp only [estoverslaw02_IntervalFirst.j0]
  exact Ev.yes trivial (Ev.bind awake_ev (Ev.now _))
/-- The scan over the ints of the gap. -/
theorem free_loop (s : List S28) (a lo hi n : Int) (hs : s.length ≤ maxLen) (hn : n ≤ 30) (ha : I64 a) (hb : I64 (a + n)) (hfree : ∀ m, a ≤ m → m < a + n → ¬ mem s m) (d : Nat) : ∀ i : Int, 0 ≤ i → (n - i).toNat ≤ d →
    Ev (fun k => estoverslaw02_IntervalFirst.l1 k s a i lo hi n) true := by
  unfold I64 at ha hb
  induction d with
  | zero =>
    intro i h0 hd
    refine Ev.next ?_
    simp only [estoverslaw02_IntervalFirst.l1]
    exact Ev.no (by omega) (Ev.bind awake_ev (Ev.now _))
  | succ d ih =>
    intro i h0 hd
    refine Ev.next ?_
    by_cases c : i < n
    · have hw : wrap64 (a + i) = a + i := by unfold wrap64; omega
      have hw' : wrap64 (i + 1) = i + 1 := by unfold wrap64; omega
      simp only [estoverslaw02_IntervalFirst.l1, hw, hw']
      have hi := lawin_ev s (a + i) hs
      rw [memB_false.2 (hfree _ (by omega) (by omega))] at hi
      exact Ev.yes c (Ev.bind hi (Ev.no (by simp) (ih (i + 1) (by omega) (by omega))))
    · simp only [estoverslaw02_IntervalFirst.l1]
      exact Ev.no c (Ev.bind awake_ev (Ev.now _))
theorem first_scan (s r : List S28) (a e lo hi n : Int) (hr : r.length ≤ maxLen) (hpos : ∀ x ∈ r, x.f0 < x.f1) (hle : ∀ y ∈ r, fits y n → e = 0 ∧ a ≤ y.f0)
    (hend : Ev (fun k => if e = 6 then (if a = 0 then ((estoverslaw02_awake.f k).bind fun t => (some t)) else (some false)) else (if a < lo then (estoverslaw02_IntervalFirst.j3 k s a true lo hi n) else (if a ≥ hi then (estoverslaw02_IntervalFirst.j3 k s a true lo hi n) else (estoverslaw02_IntervalFirst.j3 k s a (decide ((IntKind.u64.wrap ((IntKind.u64.wrap hi) - (IntKind.u64.wrap a))) < (IntKind.u64.wrap n))) lo hi n)))) true)
    (post : List S28) : ∀ (pre : List S28), r = pre ++ post → Ev (fun k => estoverslaw02_IntervalFirst.l0 k s a e r (pre.length : Int) lo hi n) true := by
  unfold maxLen at hr
  induction post with
  | nil =>
    intro pre h
    refine Ev.next ?_
    simp only [estoverslaw02_IntervalFirst.l0]
    exact Ev.no (by rw [h]; simp) hend
  | cons x post ih =>
    intro pre h
    have hlen : r.length = pre.length + (post.length + 1) := by rw [h]; simp
    have hx : rd_T28 r (pre.length : Int) = x := by rw [h]; exact rd_mid pre x post
    have hw : wrap64 ((pre.length : Int) + 1) = ((pre ++ [x]).length : Int) := by rw [wrap_next (by omega) (by omega)]; simp
    have hm : x ∈ r := by rw [h]; simp
    have ih' := ih (pre ++ [x]) (by rw [h]; simp)
    refine Ev.next ?_
    simp only [estoverslaw02_IntervalFirst.l0, hx, hw]
    refine Ev.yes (by omega) (Ev.yes (by omega) (Ev.no (by have := hpos x hm; omega) ?_))
    by_cases c : fits x n
    · obtain ⟨h1, h2⟩ := hle x hm c
      exact Ev.yes c (Ev.yes h1 (Ev.no (by omega) ih'))
    · exact Ev.no c ih'
theorem estoverslaw02_IntervalFirst.pure : estoverslaw02_IntervalFirst.Pure := by
  intro s lo hi n hl h0 h1 h2
  refine Ev.rounds (g := fun k => estoverslaw02_IntervalFirst.f k s lo hi n) ?_
  unfold estoverslaw02_IntervalFirst.f
  simp only [few_ev, Option.bind_some]
  by_cases h : s.length ≤ 12
  case neg => exact Ev.no (by simp [h]) (first_skip s lo hi n)
  refine Ev.yes (by simp [h]) ?_
  have hs : s.length ≤ maxLen := hl.1
  by_cases hv : Val s
  case neg => exact Ev.bind (sound_no hs hv) (Ev.no (by simp) (first_skip s lo hi n))
  refine Ev.bind (sound_yes hs hv) (Ev.yes rfl ?_)
  by_cases hlo : lo > hi
  · exact Ev.yes hlo (first_skip s lo hi n)
  refine Ev.no hlo ?_
  by_cases hn : n < 1
  · exact Ev.yes hn (first_skip s lo hi n)
  refine Ev.no hn ?_
  by_cases hn3 : n > 30
  · rw [decide_eq_true hn3]; exact first_skip s lo hi n
  rw [decide_eq_false hn3]
  have hle : lo ≤ hi := by omega
  have es : Ends I64 s := fun x hx => ⟨i64_of (hl.2 x hx).1, i64_of (hl.2 x hx).2⟩
  have l64 := i64_of h0
  have r64 := i64_of h1
  obtain ⟨r, hr, hg, vr, mr, er, nr⟩ := gaps_ok I64 s lo hi hv hle (by omega) es l64 r64
  have lr : r.length ≤ maxLen := by unfold maxLen; omega
  have hf := firstgap_ok s r lo hi n hs hv hle (by omega) hr lr
  have kind := firstFit_kind n r
  have least := firstFit_least n r vr
  have some_ := firstFit_some n r
  generalize firstFit n r = ff at hf kind least some_
  obtain ⟨a, e⟩ := ff
  refine Ev.next ?_
  simp only [estoverslaw02_IntervalFirst.j0]
  refine Ev.no (by simp) (Ev.bind hf (Ev.bind hg (Ev.yes rfl ?_)))
  have go : Ev (fun k => estoverslaw02_IntervalFirst.j1 k s a e r false lo hi n) true := by
    refine Ev.next ?_
    simp only [estoverslaw02_IntervalFirst.j1]
    refine Ev.no (by simp) (first_scan s r a e lo hi n lr vr.pos least ?_ r [] rfl)
    rcases kind with k0 | k0
    · obtain ⟨x, hx, fx, ax⟩ := some_ k0
      have k0' : e = 0 := k0
      have ax' : a = x.f0 := ax
      subst k0'; subst ax'
      have x64 := er x hx
      have xp := vr.pos x hx
      have fx' := (fits_iff x n x64.1 x64.2 (by omega) (by omega) (by omega)).1 fx
      have inb : ∀ m, x.f0 ≤ m → m < x.f1 → (lo ≤ m ∧ m < hi) ∧ ¬ mem s m := fun m h3 h4 => (mr m).1 ⟨x, hx, h3, h4⟩
      have b0 := (inb x.f0 (Int.le_refl _) xp).1
      have b1 := (inb (x.f1 - 1) (by omega) (by omega)).1
      refine Ev.no (by decide) (Ev.no (by omega) (Ev.no (by omega) ?_))
      rw [u64_diff _ _ x64.1 r64 (by omega), u64_small n (by omega) (by omega), decide_eq_false (by omega)]
      refine Ev.next ?_
      simp only [estoverslaw02_IntervalFirst.j3]
      exact Ev.no (by simp) (free_loop s x.f0 lo hi n hs (by omega) x64.1 (by have := x64.1; have := x64.2; unfold I64 at *; omega) (fun m h3 h4 => (inb m h3 (by omega)).2) _ 0 (Int.le_refl _) (Nat.le_refl _))
    · injection k0 with ka ke
      subst ka; subst ke
      exact Ev.yes rfl (Ev.yes rfl (Ev.bind awake_ev (Ev.now _)))
  rcases kind with k0 | k0
  · have k0' : e = 0 := k0
    exact Ev.yes k0' go
  · injection k0 with ka ke
    subst ka; subst ke
    exact Ev.no (by decide) go
end Go.Proofs.Ytkgknibciclmjaa.I

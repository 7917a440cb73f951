/- The law IntervalGaps over lists and numbers: free intervals and the first sufficient one are the specified ones, or the specified errors are returned. -/
import Derived.Test.YtkgknibciclmjaaIQIntervalGaps
import Derived.Test.YtkgknibciclmjaaIAL
import Derived.Test.YtkgknibciclmjaaIAF
import Derived.Test.YtkgknibciclmjaaIAB
set_option linter.unusedSimpArgs false
set_option linter.unusedVariables false
namespace Go.Proofs.Ytkgknibciclmjaa.I
open Go.RowKit Go.Proofs.YtkgknibciclmjaaW.PrintWords Go.Proofs.YtkgknibciclmjaaW.PrintLast

theorem refgaps_ok (s : List S28) (lo hi : Int) (hv : Val s) (h : lo ≤ hi) (hl : s.length ≤ 12) :
    ∃ r, Ev (fun k => estoversref02_Gaps.f k s lo hi) (r, 0) ∧ Val r ∧ ∀ n, mem r n ↔ (lo ≤ n ∧ n < hi) ∧ ¬ mem s n := by
  have hc := refcheck_ev s (by unfold maxLen; omega)
  rw [(chk_val s).2 hv] at hc
  obtain ⟨r, hr, vr, mr⟩ := combine_ev (whole lo hi) s 2 (by have := len_whole lo hi; omega) (by omega)
  refine ⟨r, ?_, vr, fun n => ?_⟩
  · unfold estoversref02_Gaps.f
    refine Ev.bind hc (Ev.yes rfl (Ev.no (by omega) ?_))
    by_cases e : lo < hi
    · refine Ev.yes e (Ev.yes (by simp) ?_)
      have ho : whole lo hi = [] ++ [(⟨lo, hi⟩ : S28)] := by unfold whole; rw [if_neg (by omega)]; rfl
      rw [ho] at hr
      exact Ev.bind hr (Ev.now _)
    · have ho : whole lo hi = [] := by unfold whole; rw [if_pos (by omega)]
      rw [ho] at hr
      exact Ev.no e (Ev.bind hr (Ev.now _))
  · rw [mr, ← mem_whole lo hi n h, ← memB_true, ← memB_true]
    unfold opB
    cases memB s n <;> cases memB (whole lo hi) n <;> simp
theorem reffirst_loop (n : Int) (l : List S28) (hl : l.length ≤ maxLen) (post : List S28) : ∀ (pre : List S28), l = pre ++ post →
    Ev (fun k => estoversref02_FirstGap.l0 k n l (pre.length : Int)) (firstFit n post) := by
  unfold maxLen at hl
  induction post with
  | nil =>
    intro pre h
    refine Ev.step (f := fun _ => some (0, 6)) (fun k => ?_) (Ev.now _)
    simp only [estoversref02_FirstGap.l0]
    rw [if_neg (by rw [h]; simp)]
  | cons x post ih =>
    intro pre h
    have hlen : l.length = pre.length + (post.length + 1) := by rw [h]; simp
    have hx : rd_T28 l (pre.length : Int) = x := by rw [h]; exact rd_mid pre x post
    have hw : wrap64 ((pre.length : Int) + 1) = ((pre ++ [x]).length : Int) := by rw [wrap_next (by omega) (by omega)]; simp
    refine Ev.next ?_
    simp only [estoversref02_FirstGap.l0, hx, hw, estoversref02_Fits.f, Option.bind_some]
    refine Ev.yes (by omega) (Ev.yes (by omega) ?_)
    simp only [firstFit]
    by_cases c : fits x n
    · rw [if_pos c]; exact Ev.yes (decide_eq_true c) (Ev.now _)
    · rw [if_neg c]; exact Ev.no (by rw [decide_eq_true_eq]; exact c) (ih (pre ++ [x]) (by rw [h]; simp))
theorem estoverslaw02_IntervalGaps.pure : estoverslaw02_IntervalGaps.Pure := by
  intro s lo hi n hl h0 h1 h2
  refine Ev.rounds (g := fun k => estoverslaw02_IntervalGaps.f k s lo hi n) ?_
  unfold estoverslaw02_IntervalGaps.f
  simp only [few_ev, Option.bind_some]
  by_cases h : s.length ≤ 12
  case neg => exact Ev.no (by simp [h]) (Ev.bind awake_ev (Ev.now _))
  refine Ev.yes (by simp [h]) ?_
  have hs : s.length ≤ maxLen := hl.1
  have rc := refcheck_ev s hs
  by_cases hv : Val s
  case neg =>
    have hne : ¬ chk none s = 0 := fun e => hv ((chk_val s).1 e)
    have rg : Ev (fun k => estoversref02_Gaps.f k s lo hi) ([], chk none s) := by unfold estoversref02_Gaps.f; exact Ev.bind rc (Ev.no hne (Ev.now _))
    refine Ev.bind (gaps_err s lo hi hs hv) (Ev.bind rg (Ev.bind (firstgap_err s lo hi n hs hv) ?_))
    refine Ev.bind (a := (0, chk none s)) (by unfold estoversref02_FirstGap.f; exact Ev.bind rg (Ev.no hne (Ev.now _))) ?_
    exact Ev.yes rfl (Ev.yes rfl (Ev.yes rfl (Ev.bind (same_ev [] (by unfold maxLen; simp)) (Ev.yes rfl (Ev.bind awake_ev (Ev.now _))))))
  rw [(chk_val s).2 hv] at rc
  by_cases hab : lo > hi
  · have rg : Ev (fun k => estoversref02_Gaps.f k s lo hi) ([], 2) := by unfold estoversref02_Gaps.f; exact Ev.bind rc (Ev.yes rfl (Ev.yes hab (Ev.now _)))
    refine Ev.bind (gaps_range s lo hi hs hv hab) (Ev.bind rg (Ev.bind (firstgap_range s lo hi n hs hv (.inl hab)) ?_))
    refine Ev.bind (a := (0, 2)) (by unfold estoversref02_FirstGap.f; exact Ev.bind rg (Ev.no (by simp) (Ev.now _))) ?_
    exact Ev.yes rfl (Ev.yes rfl (Ev.yes rfl (Ev.bind (same_ev [] (by unfold maxLen; simp)) (Ev.yes rfl (Ev.bind awake_ev (Ev.now _))))))
  have hle : lo ≤ hi := by omega
  obtain ⟨r, hr, hg, vr, mr, er, nr⟩ := gaps_ok (fun _ => True) s lo hi hv hle (by omega) (ends_any' s) trivial trivial
  obtain ⟨r', hr', vr', mr'⟩ := refgaps_ok s lo hi hv hle h
  have e : r = r' := val_unique r r' vr vr' (fun n => by rw [mr, mr'])
  subst e
  have lr : r.length ≤ maxLen := by unfold maxLen; omega
  refine Ev.bind hg (Ev.bind hr' ?_)
  by_cases hn : n < 1
  · refine Ev.bind (firstgap_range s lo hi n hs hv (.inr hn)) ?_
    refine Ev.bind (a := (0, 2)) (by unfold estoversref02_FirstGap.f; exact Ev.bind hr' (Ev.yes rfl (Ev.yes hn (Ev.now _)))) ?_
    exact Ev.yes rfl (Ev.yes rfl (Ev.yes rfl (Ev.bind (same_ev r lr) (Ev.yes rfl (Ev.bind awake_ev (Ev.now _))))))
  · refine Ev.bind (firstgap_ok s r lo hi n hs hv hle (by omega) hr lr) ?_
    refine Ev.bind (a := firstFit n r) (by unfold estoversref02_FirstGap.f; exact Ev.bind hr' (Ev.yes rfl (Ev.no hn (reffirst_loop n r lr r [] rfl)))) ?_
    exact Ev.yes rfl (Ev.yes rfl (Ev.yes rfl (Ev.bind (same_ev r lr) (Ev.yes rfl (Ev.bind awake_ev (Ev.now _))))))
end Go.Proofs.Ytkgknibciclmjaa.I

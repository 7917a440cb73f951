/- The law ErrseqOnce: for every input the call returns true, and each argument reads behind it as it did. No condition of its own. -/
import Derived.Test.YtminfgfigpiajaaRows
import Derived.Test.YtminfgfigpiajaaEPureErrseqOnce
import Derived.WalkKit
import Derived.ProofKit
import Derived.OpenShut
import Derived.ShutString
import Derived.ChangeOld
import Derived.Below
import Derived.SizedLaws
namespace Go.Proofs.Ytminfgfigpiajaa.errseqOnce
open Go.ChangeShapes Go.WideShapes Go.ChangeAt Go.RowKit Go.Proofs.Ytminfgfigpiajaa.Gate Go.Proofs.YtminfgfigpiajaaW.PrintWords Go.Proofs.Ytminfgfigpiajaa.E
set_option linter.unusedVariables false
set_option linter.unusedSimpArgs false
theorem own : ownKnob Try.prog.godebug = none := by kernel_rfl
theorem laidOut : laidOutB Try.prog = true := by kernel_rfl
set_option maxRecDepth 100000 in
theorem lifted (os : Os) (started : os.Started) (H : Type) (enc : TypeId × Value → H) :
    ReturnsInHanded {} Try.checked os 6 .any (Rows.errseqOnceSpec.pre6 enc Try.prog Try.f6 Rows.errseqOnceRow.domain false) (Rows.errseqOnceSpec.post enc Try.prog Try.f6 false true false false) := by
  refine returnsInHanded_of_change_sized (C := Try.checked) own started (by kernel_rfl) Try.func6
    (ChangeSpec.witness6 (enc := enc) (C := Try.checked) false ⟨#[], #[.slice none 0 0], []⟩ 8 (by kernel_rfl) (by kernel_rfl) (by kernel_rfl) (by kernel_rfl)) ?_
  intro W base args ds gs before hval0 hW hcnd hsz0 _
  have hval : ∀ (j : Nat) t v, Try.f6.params[j]? = some t → args[j]? = some v → Value.okWide Try.prog W .any base t v := hval0
  have hW' := hW
  obtain ⟨p, q, hA0, hV, rfl, hfz, hnd⟩ := hW
  have hA : DataW.TrodAll enc Try.prog W 0 (fun _ => true) true Try.f6.params.toList args.toList ds p := hA0
  rw [Try.params6] at hA hval
  obtain ⟨v0, vs0, d0, ds0, p0, q0, hargs, rfl, rfl, h0, r0⟩ := trodAll_cons hA
  obtain ⟨rfl, rfl, rfl⟩ := trodAll_nil r0
  obtain rfl : args = #[v0] := by cases args; simp_all
  obtain ⟨rfl, rfl⟩ := trodVars_none hV
  have k0 := h0
  have lt0 : ∀ x ∈ p0, x.block < W.heap.size := by obtain ⟨m, hm⟩ := k0; exact DataW.trod_lt m _ _ _ hm
  obtain ⟨m0, hf0⟩ := h0
  obtain ⟨A0, n0, c0, rfl⟩ := okWide_slice Try.underlying34 (hval 0 34 v0 rfl rfl)
  obtain ⟨l0, ⟨A0', c0', hk0, hl0, hC0⟩, hq0⟩ := (opens_slice (q := 43) (n := m0) Try.underlying34 (by kernel_rfl) (fun m2 _ => (o43 m2))) _ _ hf0
  obtain ⟨rfl, rfl, rfl⟩ : A0 = A0' ∧ n0 = l0.length ∧ c0 = c0' := by
    have hk : [Value.slice A0 n0 c0] = [Value.slice A0' l0.length c0'] := by simpa [Value.cells] using hk0
    injection hk with hk _
    injection hk with h0 h1 h2
    exact ⟨h0, h1, h2⟩
  clear hA0 hval0 hsz0
  obtain ⟨k, hp⟩ := estoverslaw29_ErrseqOnce.pure l0 hq0
  refine (estoverslaw29_ErrseqOnce.calls k A0 c0 l0 true W hC0 hl0 hp).mono fun e W' ⟨he, bel⟩ => ?_
  subst he
  exact ⟨_, rfl, _, _, _, [], _, [], hW', trodAll_mk1 (shut_bool Try.underlying4 _), (trodAll_cons_mk (Below.trod laidOut (by kernel_rfl) (of_decide_eq_true (by kernel_rfl)) k0 bel lt0) trodAll_mk0), rfl, bel.frame _, fun h => by cases h⟩
theorem over : Rows.errseqOnceRow.holds Try.pinned (OpenSpec.ofChange Rows.errseqOnceSpec) :=
  OpenClaim.holds_of_wide 6 Try.f6 rfl rfl rfl rfl rfl rfl rfl ⟨rfl, rfl, rfl, rfl, rfl⟩ rfl rfl rfl rfl rfl (by kernel_rfl) Try.func6 (by kernel_rfl)
    (of_decide_eq_true (by kernel_rfl)) (by unfold Func.isWrapper; first | (rw [if_pos (by decide +kernel)]; kernel_rfl) | (rw [if_neg (by decide +kernel)]; exact ⟨rfl, rfl⟩))
    (fun os started H enc _ => lifted os started H enc)
end Go.Proofs.Ytminfgfigpiajaa.errseqOnce
namespace Go.Proofs.Ytminfgfigpiajaa
theorem errseqOnce_holds : Rows.ErrseqOnceSaid := errseqOnce.over
#print axioms errseqOnce_holds
end Go.Proofs.Ytminfgfigpiajaa

/- The law IntervalKeeps: for every input the call returns true, and each argument reads behind it as it did. No condition of its own. -/
import Derived.Test.YtkgknibciclmjaaRows
import Derived.Test.YtkgknibciclmjaaIPureIntervalKeeps
import Derived.WalkKit
import Derived.ProofKit
import Derived.OpenShut
import Derived.ShutString
import Derived.ChangeOld
import Derived.Below
import Derived.SizedLaws
namespace Go.Proofs.Ytkgknibciclmjaa.intervalKeeps
open Go.ChangeShapes Go.WideShapes Go.ChangeAt Go.RowKit Go.Proofs.Ytkgknibciclmjaa.Gate Go.Proofs.YtkgknibciclmjaaW.PrintWords Go.Proofs.Ytkgknibciclmjaa.I
set_option linter.unusedVariables false
set_option linter.unusedSimpArgs false
theorem own : ownKnob Try.prog.godebug = none := by kernel_rfl
theorem laidOut : laidOutB Try.prog = true := by kernel_rfl
set_option maxRecDepth 100000 in
theorem lifted (os : Os) (started : os.Started) (H : Type) (enc : TypeId × Value → H) :
    ReturnsInHanded {} Try.checked os 10 .any (Rows.intervalKeepsSpec.pre6 enc Try.prog Try.f10 Rows.intervalKeepsRow.domain false) (Rows.intervalKeepsSpec.post enc Try.prog Try.f10 false true false false) := by
  refine returnsInHanded_of_change_sized (C := Try.checked) own started (by kernel_rfl) Try.func10
    (ChangeSpec.witness6 (enc := enc) (C := Try.checked) false ⟨#[], #[.slice none 0 0, .slice none 0 0, .agg #[.int .i64 0, .int .i64 0]], []⟩ 8 (by kernel_rfl) (by kernel_rfl) (by kernel_rfl) (by kernel_rfl)) ?_
  intro W base args ds gs before hval0 hW hcnd hsz0 _
  have hval : ∀ (j : Nat) t v, Try.f10.params[j]? = some t → args[j]? = some v → Value.okWide Try.prog W .any base t v := hval0
  have hW' := hW
  obtain ⟨p, q, hA0, hV, rfl, hfz, hnd⟩ := hW
  have hA : DataW.TrodAll enc Try.prog W 0 (fun _ => true) true Try.f10.params.toList args.toList ds p := hA0
  rw [Try.params10] at hA hval
  obtain ⟨v0, vs0, d0, ds0, p0, q0, hargs, rfl, rfl, h0, r0⟩ := trodAll_cons hA
  obtain ⟨v1, vs1, d1, ds1, p1, q1, rfl, rfl, rfl, h1, r1⟩ := trodAll_cons r0
  obtain ⟨v2, vs2, d2, ds2, p2, q2, rfl, rfl, rfl, h2, r2⟩ := trodAll_cons r1
  obtain ⟨rfl, rfl, rfl⟩ := trodAll_nil r2
  obtain rfl : args = #[v0, v1, v2] := by cases args; simp_all
  obtain ⟨rfl, rfl⟩ := trodVars_none hV
  have k0 := h0
  have lt0 : ∀ x ∈ p0, x.block < W.heap.size := by obtain ⟨m, hm⟩ := k0; exact DataW.trod_lt m _ _ _ hm
  obtain ⟨m0, hf0⟩ := h0
  obtain ⟨A0, n0, c0, rfl⟩ := okWide_slice Try.underlying22 (hval 0 22 v0 rfl rfl)
  obtain ⟨l0, ⟨A0', c0', hk0, hl0, hC0⟩, hq0⟩ := (opens_slice (q := 28) (n := m0) Try.underlying22 (by kernel_rfl) (fun m2 _ => (o28 m2))) _ _ hf0
  obtain ⟨rfl, rfl, rfl⟩ : A0 = A0' ∧ n0 = l0.length ∧ c0 = c0' := by
    have hk : [Value.slice A0 n0 c0] = [Value.slice A0' l0.length c0'] := by simpa [Value.cells] using hk0
    injection hk with hk _
    injection hk with h0 h1 h2
    exact ⟨h0, h1, h2⟩
  have k1 := h1
  have lt1 : ∀ x ∈ p1, x.block < W.heap.size := by obtain ⟨m, hm⟩ := k1; exact DataW.trod_lt m _ _ _ hm
  obtain ⟨m1, hf1⟩ := h1
  obtain ⟨A1, n1, c1, rfl⟩ := okWide_slice Try.underlying22 (hval 1 22 v1 rfl rfl)
  obtain ⟨l1, ⟨A1', c1', hk1, hl1, hC1⟩, hq1⟩ := (opens_slice (q := 28) (n := m1) Try.underlying22 (by kernel_rfl) (fun m2 _ => (o28 m2))) _ _ hf1
  obtain ⟨rfl, rfl, rfl⟩ : A1 = A1' ∧ n1 = l1.length ∧ c1 = c1' := by
    have hk : [Value.slice A1 n1 c1] = [Value.slice A1' l1.length c1'] := by simpa [Value.cells] using hk1
    injection hk with hk _
    injection hk with h0 h1 h2
    exact ⟨h0, h1, h2⟩
  have k2 := h2
  have lt2 : ∀ x ∈ p2, x.block < W.heap.size := by obtain ⟨m, hm⟩ := k2; exact DataW.trod_lt m _ _ _ hm
  obtain ⟨m2, hf2⟩ := h2
  obtain ⟨⟨b2⟩, rfl, sz2⟩ := okWide_struct Try.underlying28 (hval 2 28 v2 rfl rfl)
  obtain ⟨⟨a2_0, a2_1⟩, hk2, hq2⟩ := (opens_struct Try.underlying28 (by kernel_rfl) (n := m2) (fun m _ => from_cons (by rfl) (by kernel_rfl) (opens_int Try.underlying3 m) (from_last (by rfl) (by kernel_rfl) (opens_int Try.underlying3 m)))) _ _ hf2
  obtain rfl : b2 = [.int .i64 a2_0, .int .i64 a2_1] := by
    have hk : (Value.agg ⟨b2⟩).cells.toList = [.int .i64 a2_0, .int .i64 a2_1] := by
      obtain ⟨_, _, h0, rfl, rfl⟩ := hk2
      simp_all
    simpa [Value.cells] using hk
  obtain ⟨hw_a2_0, hw_a2_1⟩ := hq2
  clear hA0 hval0 hsz0
  obtain ⟨k, hp⟩ := estoverslaw02_IntervalKeeps.pure l0 l1 a2_0 a2_1 hq0 hq1 hw_a2_0 hw_a2_1
  refine (estoverslaw02_IntervalKeeps.calls k A0 c0 l0 A1 c1 l1 a2_0 a2_1 true W hC0 hl0 hC1 hl1 hp).mono fun e W' ⟨he, bel⟩ => ?_
  subst he
  exact ⟨_, rfl, _, _, _, [], _, [], hW', trodAll_mk1 (shut_bool Try.underlying4 _), (trodAll_cons_mk (Below.trod laidOut (by kernel_rfl) (of_decide_eq_true (by kernel_rfl)) k0 bel lt0) (trodAll_cons_mk (Below.trod laidOut (by kernel_rfl) (of_decide_eq_true (by kernel_rfl)) k1 bel lt1) (trodAll_cons_mk (Below.trod laidOut (by kernel_rfl) (of_decide_eq_true (by kernel_rfl)) k2 bel lt2) trodAll_mk0))), rfl, bel.frame _, fun h => by cases h⟩
theorem over : Rows.intervalKeepsRow.holds Try.pinned (OpenSpec.ofChange Rows.intervalKeepsSpec) :=
  OpenClaim.holds_of_wide 10 Try.f10 rfl rfl rfl rfl rfl rfl rfl ⟨rfl, rfl, rfl, rfl, rfl⟩ rfl rfl rfl rfl rfl (by kernel_rfl) Try.func10 (by kernel_rfl)
    (of_decide_eq_true (by kernel_rfl)) (by unfold Func.isWrapper; first | (rw [if_pos (by decide +kernel)]; kernel_rfl) | (rw [if_neg (by decide +kernel)]; exact ⟨rfl, rfl⟩))
    (fun os started H enc _ => lifted os started H enc)
end Go.Proofs.Ytkgknibciclmjaa.intervalKeeps
namespace Go.Proofs.Ytkgknibciclmjaa
theorem intervalKeeps_holds : Rows.IntervalKeepsSaid := intervalKeeps.over
#print axioms intervalKeeps_holds
end Go.Proofs.Ytkgknibciclmjaa

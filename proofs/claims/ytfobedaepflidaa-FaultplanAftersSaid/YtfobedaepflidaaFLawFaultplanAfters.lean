/- The law FaultplanAfters: for every input the call returns true, and each argument reads behind it as it did. No condition of its own. -/
import Derived.Test.YtfobedaepflidaaRows
import Derived.Test.YtfobedaepflidaaFPureFaultplanAfters
import Derived.WalkKit
import Derived.ProofKit
import Derived.OpenShut
import Derived.ShutString
import Derived.ChangeOld
import Derived.Below
import Derived.SizedLaws
namespace Go.Proofs.Ytfobedaepflidaa.faultplanAfters
open Go.ChangeShapes Go.WideShapes Go.ChangeAt Go.RowKit Go.Proofs.Ytfobedaepflidaa.Gate Go.Proofs.YtfobedaepflidaaW.PrintWords Go.Proofs.Ytfobedaepflidaa.F
set_option linter.unusedVariables false
set_option linter.unusedSimpArgs false
theorem own : ownKnob Try.prog.godebug = none := by kernel_rfl
theorem laidOut : laidOutB Try.prog = true := by kernel_rfl
set_option maxRecDepth 100000 in
theorem lifted (os : Os) (started : os.Started) (H : Type) (enc : TypeId × Value → H) :
    ReturnsInHanded {} Try.checked os 5 .any (Rows.faultplanAftersSpec.pre6 enc Try.prog Try.f5 Rows.faultplanAftersRow.domain false) (Rows.faultplanAftersSpec.post enc Try.prog Try.f5 false true false false) := by
  refine returnsInHanded_of_change_sized (C := Try.checked) own started (by kernel_rfl) Try.func5
    (ChangeSpec.witness6 (enc := enc) (C := Try.checked) false ⟨#[], #[.agg #[.bool false, .bool false, .int .i64 0, .bool false, .bool false, .bool false, .bool false, .int .i64 0, .bool false, .bool false, .bool false, .bool false, .bool false, .bool false, .bool false, .bool false, .int .i64 0]], []⟩ 8 (by kernel_rfl) (by kernel_rfl) (by kernel_rfl) (by kernel_rfl)) ?_
  intro W base args ds gs before hval0 hW hcnd hsz0 _
  have hval : ∀ (j : Nat) t v, Try.f5.params[j]? = some t → args[j]? = some v → Value.okWide Try.prog W .any base t v := hval0
  have hW' := hW
  obtain ⟨p, q, hA0, hV, rfl, hfz, hnd⟩ := hW
  have hA : DataW.TrodAll enc Try.prog W 0 (fun _ => true) true Try.f5.params.toList args.toList ds p := hA0
  rw [Try.params5] at hA hval
  obtain ⟨v0, vs0, d0, ds0, p0, q0, hargs, rfl, rfl, h0, r0⟩ := trodAll_cons hA
  obtain ⟨rfl, rfl, rfl⟩ := trodAll_nil r0
  obtain rfl : args = #[v0] := by cases args; simp_all
  obtain ⟨rfl, rfl⟩ := trodVars_none hV
  have k0 := h0
  have lt0 : ∀ x ∈ p0, x.block < W.heap.size := by obtain ⟨m, hm⟩ := k0; exact DataW.trod_lt m _ _ _ hm
  obtain ⟨m0, hf0⟩ := h0
  obtain ⟨⟨b0⟩, rfl, sz0⟩ := okWide_struct Try.underlying23 (hval 0 23 v0 rfl rfl)
  obtain ⟨⟨a0_0, a0_1, a0_2, a0_3, a0_4, a0_5, a0_6, a0_7, a0_8, a0_9, a0_10, a0_11, a0_12, a0_13, a0_14, a0_15, a0_16⟩, hk0, hq0⟩ := (opens_struct Try.underlying23 (by kernel_rfl) (n := m0) (fun m _ => from_cons (by rfl) (by kernel_rfl) (opens_bool Try.underlying4 m) (from_cons (by rfl) (by kernel_rfl) (opens_bool Try.underlying4 m) (from_cons (by rfl) (by kernel_rfl) (opens_int Try.underlying3 m) (from_cons (by rfl) (by kernel_rfl) (opens_bool Try.underlying4 m) (from_cons (by rfl) (by kernel_rfl) (opens_bool Try.underlying4 m) (from_cons (by rfl) (by kernel_rfl) (opens_bool Try.underlying4 m) (from_cons (by rfl) (by kernel_rfl) (opens_bool Try.underlying4 m) (from_cons (by rfl) (by kernel_rfl) (opens_int Try.underlying3 m) (from_cons (by rfl) (by kernel_rfl) (opens_bool Try.underlying4 m) (from_cons (by rfl) (by kernel_rfl) (opens_bool Try.underlying4 m) (from_cons (by rfl) (by kernel_rfl) (opens_bool Try.underlying4 m) (from_cons (by rfl) (by kernel_rfl) (opens_bool Try.underlying4 m) (from_cons (by rfl) (by kernel_rfl) (opens_bool Try.underlying4 m) (from_cons (by rfl) (by kernel_rfl) (opens_bool Try.underlying4 m) (from_cons (by rfl) (by kernel_rfl) (opens_bool Try.underlying4 m) (from_cons (by rfl) (by kernel_rfl) (opens_bool Try.underlying4 m) (from_last (by rfl) (by kernel_rfl) (opens_int Try.underlying3 m))))))))))))))))))) _ _ hf0
  obtain rfl : b0 = [.bool a0_0, .bool a0_1, .int .i64 a0_2, .bool a0_3, .bool a0_4, .bool a0_5, .bool a0_6, .int .i64 a0_7, .bool a0_8, .bool a0_9, .bool a0_10, .bool a0_11, .bool a0_12, .bool a0_13, .bool a0_14, .bool a0_15, .int .i64 a0_16] := by
    have hk : (Value.agg ⟨b0⟩).cells.toList = [.bool a0_0, .bool a0_1, .int .i64 a0_2, .bool a0_3, .bool a0_4, .bool a0_5, .bool a0_6, .int .i64 a0_7, .bool a0_8, .bool a0_9, .bool a0_10, .bool a0_11, .bool a0_12, .bool a0_13, .bool a0_14, .bool a0_15, .int .i64 a0_16] := by
      obtain ⟨_, _, h0, rfl, ⟨_, _, rfl, rfl, ⟨_, _, rfl, rfl, ⟨_, _, rfl, rfl, ⟨_, _, rfl, rfl, ⟨_, _, rfl, rfl, ⟨_, _, rfl, rfl, ⟨_, _, rfl, rfl, ⟨_, _, rfl, rfl, ⟨_, _, rfl, rfl, ⟨_, _, rfl, rfl, ⟨_, _, rfl, rfl, ⟨_, _, rfl, rfl, ⟨_, _, rfl, rfl, ⟨_, _, rfl, rfl, ⟨_, _, rfl, rfl, rfl⟩⟩⟩⟩⟩⟩⟩⟩⟩⟩⟩⟩⟩⟩⟩⟩ := hk0
      simp_all
    simpa [Value.cells] using hk
  obtain ⟨_, _, hw_a0_2, _, _, _, _, hw_a0_7, _, _, _, _, _, _, _, _, hw_a0_16⟩ := hq0
  clear hA0 hval0 hsz0
  obtain ⟨k, hp⟩ := estoverslaw26_FaultplanAfters.pure a0_0 a0_1 a0_2 a0_3 a0_4 a0_5 a0_6 a0_7 a0_8 a0_9 a0_10 a0_11 a0_12 a0_13 a0_14 a0_15 a0_16 hw_a0_2 hw_a0_7 hw_a0_16
  refine (estoverslaw26_FaultplanAfters.calls k a0_0 a0_1 a0_2 a0_3 a0_4 a0_5 a0_6 a0_7 a0_8 a0_9 a0_10 a0_11 a0_12 a0_13 a0_14 a0_15 a0_16 true W  hp).mono fun e W' ⟨he, bel⟩ => ?_
  subst he
  exact ⟨_, rfl, _, _, _, [], _, [], hW', trodAll_mk1 (shut_bool Try.underlying4 _), (trodAll_cons_mk (Below.trod laidOut (by kernel_rfl) (of_decide_eq_true (by kernel_rfl)) k0 bel lt0) trodAll_mk0), rfl, bel.frame _, fun h => by cases h⟩
theorem over : Rows.faultplanAftersRow.holds Try.pinned (OpenSpec.ofChange Rows.faultplanAftersSpec) :=
  OpenClaim.holds_of_wide 5 Try.f5 rfl rfl rfl rfl rfl rfl rfl ⟨rfl, rfl, rfl, rfl, rfl⟩ rfl rfl rfl rfl rfl (by kernel_rfl) Try.func5 (by kernel_rfl)
    (of_decide_eq_true (by kernel_rfl)) (by unfold Func.isWrapper; first | (rw [if_pos (by decide +kernel)]; kernel_rfl) | (rw [if_neg (by decide +kernel)]; exact ⟨rfl, rfl⟩))
    (fun os started H enc _ => lifted os started H enc)
end Go.Proofs.Ytfobedaepflidaa.faultplanAfters
namespace Go.Proofs.Ytfobedaepflidaa
theorem faultplanAfters_holds : Rows.FaultplanAftersSaid := faultplanAfters.over
#print axioms faultplanAfters_holds
end Go.Proofs.Ytfobedaepflidaa

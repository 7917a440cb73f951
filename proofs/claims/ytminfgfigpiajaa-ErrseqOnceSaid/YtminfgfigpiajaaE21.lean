-- Written by a program of this session (own_print.py) that runs the kit's printer. Lean checks it.
import Derived.Test.YtminfgfigpiajaaE0
import Derived.Test.YtminfgfigpiajaaE9
import Derived.Test.YtminfgfigpiajaaE20
namespace Go.Proofs.Ytminfgfigpiajaa.E
open Go.RowKit Go.Proofs.YtminfgfigpiajaaW.PrintWords Go.Proofs.YtminfgfigpiajaaW.PrintLast Go.Proofs.YtminfgfigpiajaaW.PrintMore
attribute [local go_sem] max2_int min2_int max_two min_two max_three min_three max_four min_four   -- for this text's walks alone
set_option linter.unusedVariables false
set_option linter.unusedSimpArgs false

/-! ### estoverslaw29_ErrseqOnce: function 6 -/
def estoverslaw29_ErrseqOnce.f (k : Nat) (l0 : List S43) : Option Bool := estoverslaw29_awake.f k
theorem estoverslaw29_ErrseqOnce.mono : ∀ a0 k, LeO (estoverslaw29_ErrseqOnce.f k a0) (estoverslaw29_ErrseqOnce.f (k + 1) a0) := fun _ k => estoverslaw29_awake.mono k
set_option maxHeartbeats 4000000 in
theorem estoverslaw29_ErrseqOnce.calls (k : Nat) (A0 : Option Addr) (c0 : Nat) (l0 : List S43) (r : Bool) (w : World) (hr : Kd.C k43 w A0 l0.length l0) (hc : l0.length ≤ c0) (h : estoverslaw29_ErrseqOnce.f k l0 = some r) :
    Calls Try.prog 6 #[.slice A0 l0.length c0] w fun e w' => e = .returned (.bool r) ∧ Below w.heap.size w w' := by
  have HR := Aside0.mk hr; have HC := Aside0.mk hc; have HA := Aside0.mk (show estoverslaw29_awake.f k = some r from h)
  clear hr hc h
  by_cases hl : l0.length ≤ 60
  · have hl2 : ¬ (l0.length : Int) > 60 := by omega
    go_enter Try.func6, Try.ntmps6
    go_wp2_with (first
      | (go_at_call 19; (with_reducible refine (estoverslaw29_play.calls A0 c0 l0 true _ HR.out HC.out (by unfold estoverslaw29_play.f; rw [if_pos hl])).mono ?_); rintro e1 w1 ⟨v, rfl, hb⟩; have B1 := Aside0.mk hb; clear hb)
      | (go_at_call 12; (with_reducible refine (estoverslaw29_awake.calls k r _ HA.out).mono ?_); rintro e2 w2 ⟨rfl, hb⟩; have B2 := Aside0.mk hb; clear hb))
    go_ret
    exact ⟨rfl, below_step B1.out B2.out⟩
  · have hl2 : (l0.length : Int) > 60 := by omega
    go_enter Try.func6, Try.ntmps6
    go_wp2_with (first
      | (go_at_call 12; (with_reducible refine (estoverslaw29_awake.calls k r _ HA.out).mono ?_); rintro e2 w2 ⟨rfl, hb⟩; have B2 := Aside0.mk hb; clear hb))
    go_ret
    exact ⟨rfl, B2.out⟩

end Go.Proofs.Ytminfgfigpiajaa.E

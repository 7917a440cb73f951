-- Written by a program of this session (own_print.py) that runs the kit's printer. Lean checks it.
import Derived.Test.YtfobedaepflidaaProg
import Derived.Below
import Derived.Deep.Draws
import Derived.Deep.AppendLies
import Derived.Maps.AppendAt
import Derived.OwnWalk
import Derived.Laws.BytesArg
import Derived.Laws.MakeOwn
import Derived.Laws.OwnMore
import Derived.Deep.OwnRows
import Derived.Tactics
import Derived.Lib.ConvBytes
import Derived.Laws.Slices
import Derived.WalkKit
import Derived.KernelRfl
import Derived.RowKit3
import Derived.Deep.LoopGhost
import Derived.Deep.QuietTactic
import Derived.BigQuiet
import Derived.WideLaws
import Derived.Deep.DeepCutAuto
import Derived.Deep.CutBlock
import Derived.Deep.RegionHeld3
import Derived.Laws.Rows
import Derived.Lib.AppendStr
import Derived.ArgAppend
import Derived.Laws.IdiomCopy
import Derived.OrdersHeld
import Derived.Laws.BitsLemmas
import Derived.RowKit
import Derived.Test.YtfobedaepflidaaVMoreWGuard
namespace Go.Proofs.Ytfobedaepflidaa.F
open Go.RowKit Go.Proofs.YtfobedaepflidaaW.PrintWords Go.Proofs.YtfobedaepflidaaW.PrintLast Go.Proofs.YtfobedaepflidaaW.PrintMore
attribute [local go_sem] max2_int min2_int max_two min_two max_three min_three max_four min_four   -- for this text's walks alone
set_option linter.unusedVariables false
set_option linter.unusedSimpArgs false



def errW : Option Int → Value
  | none => .nilIface
  | some c => .iface 0 (.int .i64 c)
theorem errW_none : errW none = .nilIface := rfl
theorem errW_some (c : Int) : errW (some c) = .iface 0 (.int .i64 c) := rfl

-- the values' own types

theorem cell_keep {W : World} {p a : Addr} {u v : Value} (hp : W.cell? p = some u) (ha : W.cell? a = some v) : (W.setCell p u).cell? a = some v := by
  by_cases e : p = a
  · subst e; exact (World.cell?_setCell_same W p u hp).trans (hp.symm.trans ha)
  · exact (World.cell?_setCell_other W p a u e).trans ha

def LV23 (a : Addr) : Sem Value := loadVar 23 a
theorem ld23a (a : Addr) : loadVar 23 a = LV23 a := rfl
theorem ld23 (w : World) (g : Nat) (h : ((w.cell? ⟨g, 0, none⟩).isSome && ((w.cell? ⟨g, 1, none⟩).isSome && ((w.cell? ⟨g, 2, none⟩).isSome && ((w.cell? ⟨g, 3, none⟩).isSome && ((w.cell? ⟨g, 4, none⟩).isSome && ((w.cell? ⟨g, 5, none⟩).isSome && ((w.cell? ⟨g, 6, none⟩).isSome && ((w.cell? ⟨g, 7, none⟩).isSome && ((w.cell? ⟨g, 8, none⟩).isSome && ((w.cell? ⟨g, 9, none⟩).isSome && ((w.cell? ⟨g, 10, none⟩).isSome && ((w.cell? ⟨g, 11, none⟩).isSome && ((w.cell? ⟨g, 12, none⟩).isSome && ((w.cell? ⟨g, 13, none⟩).isSome && ((w.cell? ⟨g, 14, none⟩).isSome && ((w.cell? ⟨g, 15, none⟩).isSome && ((w.cell? ⟨g, 16, none⟩).isSome))))))))))))))))) = true) : (LV23 ⟨g, 0, none⟩).run Try.prog w = .ok (.agg #[(w.cell? ⟨g, 0, none⟩).getD undef, (w.cell? ⟨g, 1, none⟩).getD undef, (w.cell? ⟨g, 2, none⟩).getD undef, (w.cell? ⟨g, 3, none⟩).getD undef, (w.cell? ⟨g, 4, none⟩).getD undef, (w.cell? ⟨g, 5, none⟩).getD undef, (w.cell? ⟨g, 6, none⟩).getD undef, (w.cell? ⟨g, 7, none⟩).getD undef, (w.cell? ⟨g, 8, none⟩).getD undef, (w.cell? ⟨g, 9, none⟩).getD undef, (w.cell? ⟨g, 10, none⟩).getD undef, (w.cell? ⟨g, 11, none⟩).getD undef, (w.cell? ⟨g, 12, none⟩).getD undef, (w.cell? ⟨g, 13, none⟩).getD undef, (w.cell? ⟨g, 14, none⟩).getD undef, (w.cell? ⟨g, 15, none⟩).getD undef, (w.cell? ⟨g, 16, none⟩).getD undef]) w := by
  have hc : ∀ j v, ([(w.cell? ⟨g, 0, none⟩).getD undef, (w.cell? ⟨g, 1, none⟩).getD undef, (w.cell? ⟨g, 2, none⟩).getD undef, (w.cell? ⟨g, 3, none⟩).getD undef, (w.cell? ⟨g, 4, none⟩).getD undef, (w.cell? ⟨g, 5, none⟩).getD undef, (w.cell? ⟨g, 6, none⟩).getD undef, (w.cell? ⟨g, 7, none⟩).getD undef, (w.cell? ⟨g, 8, none⟩).getD undef, (w.cell? ⟨g, 9, none⟩).getD undef, (w.cell? ⟨g, 10, none⟩).getD undef, (w.cell? ⟨g, 11, none⟩).getD undef, (w.cell? ⟨g, 12, none⟩).getD undef, (w.cell? ⟨g, 13, none⟩).getD undef, (w.cell? ⟨g, 14, none⟩).getD undef, (w.cell? ⟨g, 15, none⟩).getD undef, (w.cell? ⟨g, 16, none⟩).getD undef] : List Value)[j]? = some v → w.cell? ⟨g, 0 + j, none⟩ = some v := by
    simp only [Bool.and_eq_true, Option.isSome_iff_exists] at h
    obtain ⟨⟨v0, h0⟩, ⟨v1, h1⟩, ⟨v2, h2⟩, ⟨v3, h3⟩, ⟨v4, h4⟩, ⟨v5, h5⟩, ⟨v6, h6⟩, ⟨v7, h7⟩, ⟨v8, h8⟩, ⟨v9, h9⟩, ⟨v10, h10⟩, ⟨v11, h11⟩, ⟨v12, h12⟩, ⟨v13, h13⟩, ⟨v14, h14⟩, ⟨v15, h15⟩, ⟨v16, h16⟩⟩ := h
    intro j v hv
    simp only [h0, h1, h2, h3, h4, h5, h6, h7, h8, h9, h10, h11, h12, h13, h14, h15, h16, Option.getD_some] at hv
    rcases j with _ | _ | _ | _ | _ | _ | _ | _ | _ | _ | _ | _ | _ | _ | _ | _ | _ | j
    all_goals first
      | (simp at hv; done)
      | (obtain rfl := (Option.some.inj hv); assumption)
  exact run_loadVar_mid w g 0 23 _ _ hc Try.underlying23 rfl (by kernel_rfl)
def SV23 (a : Addr) (v : Value) : Sem Unit := storeVar 23 a v
theorem sv23a (a : Addr) (v : Value) : storeVar 23 a v = SV23 a v := rfl
theorem sv23 (w : World) (g : Nat) (x0 : Bool) (x1 : Bool) (x2 : Int) (x3 : Bool) (x4 : Bool) (x5 : Bool) (x6 : Bool) (x7 : Int) (x8 : Bool) (x9 : Bool) (x10 : Bool) (x11 : Bool) (x12 : Bool) (x13 : Bool) (x14 : Bool) (x15 : Bool) (x16 : Int) (h : (((w.cell? ⟨g, 0, none⟩).isSome && !(w.frozen? ⟨g, 0, none⟩)) && (((w.cell? ⟨g, 1, none⟩).isSome && !(w.frozen? ⟨g, 1, none⟩)) && (((w.cell? ⟨g, 2, none⟩).isSome && !(w.frozen? ⟨g, 2, none⟩)) && (((w.cell? ⟨g, 3, none⟩).isSome && !(w.frozen? ⟨g, 3, none⟩)) && (((w.cell? ⟨g, 4, none⟩).isSome && !(w.frozen? ⟨g, 4, none⟩)) && (((w.cell? ⟨g, 5, none⟩).isSome && !(w.frozen? ⟨g, 5, none⟩)) && (((w.cell? ⟨g, 6, none⟩).isSome && !(w.frozen? ⟨g, 6, none⟩)) && (((w.cell? ⟨g, 7, none⟩).isSome && !(w.frozen? ⟨g, 7, none⟩)) && (((w.cell? ⟨g, 8, none⟩).isSome && !(w.frozen? ⟨g, 8, none⟩)) && (((w.cell? ⟨g, 9, none⟩).isSome && !(w.frozen? ⟨g, 9, none⟩)) && (((w.cell? ⟨g, 10, none⟩).isSome && !(w.frozen? ⟨g, 10, none⟩)) && (((w.cell? ⟨g, 11, none⟩).isSome && !(w.frozen? ⟨g, 11, none⟩)) && (((w.cell? ⟨g, 12, none⟩).isSome && !(w.frozen? ⟨g, 12, none⟩)) && (((w.cell? ⟨g, 13, none⟩).isSome && !(w.frozen? ⟨g, 13, none⟩)) && (((w.cell? ⟨g, 14, none⟩).isSome && !(w.frozen? ⟨g, 14, none⟩)) && (((w.cell? ⟨g, 15, none⟩).isSome && !(w.frozen? ⟨g, 15, none⟩)) && (((w.cell? ⟨g, 16, none⟩).isSome && !(w.frozen? ⟨g, 16, none⟩))))))))))))))))))) = true) : (SV23 ⟨g, 0, none⟩ (.agg #[.bool x0, .bool x1, .int .i64 x2, .bool x3, .bool x4, .bool x5, .bool x6, .int .i64 x7, .bool x8, .bool x9, .bool x10, .bool x11, .bool x12, .bool x13, .bool x14, .bool x15, .int .i64 x16])).run Try.prog w = .ok () (((((((((((((((((w.setCell ⟨g, 0, none⟩ (.bool x0)).setCell ⟨g, 1, none⟩ (.bool x1)).setCell ⟨g, 2, none⟩ (.int .i64 x2)).setCell ⟨g, 3, none⟩ (.bool x3)).setCell ⟨g, 4, none⟩ (.bool x4)).setCell ⟨g, 5, none⟩ (.bool x5)).setCell ⟨g, 6, none⟩ (.bool x6)).setCell ⟨g, 7, none⟩ (.int .i64 x7)).setCell ⟨g, 8, none⟩ (.bool x8)).setCell ⟨g, 9, none⟩ (.bool x9)).setCell ⟨g, 10, none⟩ (.bool x10)).setCell ⟨g, 11, none⟩ (.bool x11)).setCell ⟨g, 12, none⟩ (.bool x12)).setCell ⟨g, 13, none⟩ (.bool x13)).setCell ⟨g, 14, none⟩ (.bool x14)).setCell ⟨g, 15, none⟩ (.bool x15)).setCell ⟨g, 16, none⟩ (.int .i64 x16)) := by
  simp only [Bool.and_eq_true, Bool.not_eq_true'] at h
  obtain ⟨⟨c0, f0⟩, ⟨c1, f1⟩, ⟨c2, f2⟩, ⟨c3, f3⟩, ⟨c4, f4⟩, ⟨c5, f5⟩, ⟨c6, f6⟩, ⟨c7, f7⟩, ⟨c8, f8⟩, ⟨c9, f9⟩, ⟨c10, f10⟩, ⟨c11, f11⟩, ⟨c12, f12⟩, ⟨c13, f13⟩, ⟨c14, f14⟩, ⟨c15, f15⟩, ⟨c16, f16⟩⟩ := h
  have hst := run_storeCells_cells (P := Try.prog) g 0 [.bool x0, .bool x1, .int .i64 x2, .bool x3, .bool x4, .bool x5, .bool x6, .int .i64 x7, .bool x8, .bool x9, .bool x10, .bool x11, .bool x12, .bool x13, .bool x14, .bool x15, .int .i64 x16] 0 w (fun j hj => by
    simp only [List.length_cons, List.length_nil] at hj
    rcases j with _ | _ | _ | _ | _ | _ | _ | _ | _ | _ | _ | _ | _ | _ | _ | _ | _ | j
    all_goals first
      | assumption
      | (exfalso; omega)) (fun j hj => by
    simp only [List.length_cons, List.length_nil] at hj
    rcases j with _ | _ | _ | _ | _ | _ | _ | _ | _ | _ | _ | _ | _ | _ | _ | _ | _ | j
    all_goals first
      | assumption
      | (exfalso; omega)) (by simp [Value.oneCell'])
  have hi : (Try.prog.info? 23).map (·.size) = some 17 := by kernel_rfl
  obtain ⟨i, hi, hsz⟩ := Option.map_eq_some_iff.1 hi
  simp only [Nat.add_zero] at hst
  unfold SV23
  simp [storeVar, sizeOf, typeInfo, hi, hsz, Value.cells, hst, World.setCells]

end Go.Proofs.Ytfobedaepflidaa.F

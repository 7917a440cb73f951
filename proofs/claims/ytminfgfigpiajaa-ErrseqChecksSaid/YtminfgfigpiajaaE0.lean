-- Written by a program of this session (own_print.py) that runs the kit's printer. Lean checks it.
import Derived.Test.YtminfgfigpiajaaProg
import Derived.Below
import Derived.Deep.Draws
import Derived.Deep.AppendLies
import Derived.Maps.AppendAt
import Derived.OwnWalk
import Derived.Laws.BytesArg
import Derived.Laws.MakeOwn
import Derived.Laws.OwnMore
import Derived.Deep.OwnRows
import Derived.Tactics
import Derived.Lib.ConvBytes
import Derived.Laws.Slices
import Derived.WalkKit
import Derived.KernelRfl
import Derived.RowKit3
import Derived.Deep.LoopGhost
import Derived.Deep.QuietTactic
import Derived.BigQuiet
import Derived.WideLaws
import Derived.Deep.DeepCutAuto
import Derived.Deep.CutBlock
import Derived.Deep.RegionHeld3
import Derived.Laws.Rows
import Derived.Lib.AppendStr
import Derived.ArgAppend
import Derived.Laws.IdiomCopy
import Derived.OrdersHeld
import Derived.Laws.BitsLemmas
import Derived.RowKit
import Derived.Test.YtminfgfigpiajaaWWords
import Derived.Test.YtminfgfigpiajaaWLast
import Derived.Test.YtminfgfigpiajaaWTab
import Derived.Test.YtminfgfigpiajaaWFour
import Derived.Test.YtminfgfigpiajaaWQPut
import Derived.Test.YtminfgfigpiajaaWApart
import Derived.Test.YtminfgfigpiajaaWArr
import Derived.Test.YtminfgfigpiajaaWZeros
import Derived.Test.YtminfgfigpiajaaWFoot
import Derived.Test.YtminfgfigpiajaaWKept
import Derived.Test.YtminfgfigpiajaaWShare
import Derived.Test.YtminfgfigpiajaaWN
import Derived.Test.YtminfgfigpiajaaWFootNe
import Derived.Test.YtminfgfigpiajaaWAt
import Derived.Test.YtminfgfigpiajaaWEqStruct
import Derived.Test.YtminfgfigpiajaaWRepsOne
import Derived.Test.YtminfgfigpiajaaWInv
import Derived.Test.YtminfgfigpiajaaWInvWords
import Derived.Test.YtminfgfigpiajaaWGuard
import Derived.Test.YtminfgfigpiajaaWNEv
import Derived.Test.YtminfgfigpiajaaWMore
namespace Go.Proofs.Ytminfgfigpiajaa.E
open Go.RowKit Go.Proofs.YtminfgfigpiajaaW.PrintWords Go.Proofs.YtminfgfigpiajaaW.PrintLast Go.Proofs.YtminfgfigpiajaaW.PrintMore
attribute [local go_sem] max2_int min2_int max_two min_two max_three min_three max_four min_four   -- for this text's walks alone
set_option linter.unusedVariables false
set_option linter.unusedSimpArgs false



def errW : Option Int → Value
  | none => .nilIface
  | some c => .iface 0 (.int .i64 c)
theorem errW_none : errW none = .nilIface := rfl
theorem errW_some (c : Int) : errW (some c) = .iface 0 (.int .i64 c) := rfl

-- the values' own types

theorem cell_keep {W : World} {p a : Addr} {u v : Value} (hp : W.cell? p = some u) (ha : W.cell? a = some v) : (W.setCell p u).cell? a = some v := by
  by_cases e : p = a
  · subst e; exact (World.cell?_setCell_same W p u hp).trans (hp.symm.trans ha)
  · exact (World.cell?_setCell_other W p a u e).trans ha

end Go.Proofs.Ytminfgfigpiajaa.E

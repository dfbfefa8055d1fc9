-- Written by wip/myprint.py, a program of this session's, over the kit's print and this session's given texts. Not trusted: Lean checks it.
import Derived.Test.YtojlgjdebokelabProg
import Derived.Below
import Derived.Deep.Draws
import Derived.Deep.AppendLies
import Derived.Maps.AppendAt
import Derived.OwnWalk
import Derived.Laws.BytesArg
import Derived.Laws.MakeOwn
import Derived.Laws.OwnMore
import Derived.Deep.OwnRows
import Derived.Tactics
import Derived.Lib.ConvBytes
import Derived.Laws.Slices
import Derived.WalkKit
import Derived.KernelRfl
import Derived.RowKit3
import Derived.Deep.LoopGhost
import Derived.Deep.QuietTactic
import Derived.BigQuiet
import Derived.WideLaws
import Derived.Deep.DeepCutAuto
import Derived.Deep.CutBlock
import Derived.Deep.RegionHeld3
import Derived.Laws.Rows
import Derived.Lib.AppendStr
import Derived.ArgAppend
import Derived.Laws.IdiomCopy
import Derived.OrdersHeld
import Derived.Laws.BitsLemmas
import Derived.RowKit
import Derived.Test.YtojlgjdebokelabWWords
import Derived.Test.YtojlgjdebokelabWLast
import Derived.Test.YtojlgjdebokelabWTab
import Derived.Test.YtojlgjdebokelabWFour
import Derived.Test.YtojlgjdebokelabWQPut
import Derived.Test.YtojlgjdebokelabWApart
import Derived.Test.YtojlgjdebokelabWArr
import Derived.Test.YtojlgjdebokelabWZeros
import Derived.Test.YtojlgjdebokelabWFoot
import Derived.Test.YtojlgjdebokelabWKept
import Derived.Test.YtojlgjdebokelabWShare
import Derived.Test.YtojlgjdebokelabWN
import Derived.Test.YtojlgjdebokelabWFootNe
import Derived.Test.YtojlgjdebokelabWAt
import Derived.Test.YtojlgjdebokelabWEqStruct
import Derived.Test.YtojlgjdebokelabWRepsOne
import Derived.Test.YtojlgjdebokelabWInv
import Derived.Test.YtojlgjdebokelabWInvWords
import Derived.Test.YtojlgjdebokelabWGuard
import Derived.Test.YtojlgjdebokelabWNEv
import Derived.Test.YtojlgjdebokelabWMore
namespace Go.Proofs.Ytojlgjdebokelab.PLib8
open Go.RowKit Go.Proofs.YtojlgjdebokelabW.PrintWords Go.Proofs.YtojlgjdebokelabW.PrintLast Go.Proofs.YtojlgjdebokelabW.PrintMore
attribute [local go_sem] max2_int min2_int max_two min_two max_three min_three max_four min_four   -- for this text's walks alone
set_option linter.unusedVariables false
set_option linter.unusedSimpArgs false



def errW : Option Int → Value
  | none => .nilIface
  | some c => .iface 0 (.int .i64 c)
theorem errW_none : errW none = .nilIface := rfl
theorem errW_some (c : Int) : errW (some c) = .iface 0 (.int .i64 c) := rfl

-- the values' own types

end Go.Proofs.Ytojlgjdebokelab.PLib8

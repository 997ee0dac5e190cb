-- written by wip/xprint.py out of the translation's own print; Lean checks it
import Derived.Test.YthhfgchbpgcfmaaProg
import Derived.Below
import Derived.Deep.Draws
import Derived.Deep.AppendLies
import Derived.Maps.AppendAt
import Derived.OwnWalk
import Derived.Laws.BytesArg
import Derived.Laws.MakeOwn
import Derived.Laws.OwnMore
import Derived.Deep.OwnRows
import Derived.Tactics
import Derived.Lib.ConvBytes
import Derived.Laws.Slices
import Derived.WalkKit
import Derived.KernelRfl
import Derived.RowKit3
import Derived.Deep.LoopGhost
import Derived.Deep.QuietTactic
import Derived.BigQuiet
import Derived.WideLaws
import Derived.Deep.DeepCutAuto
import Derived.Deep.CutBlock
import Derived.Deep.RegionHeld3
import Derived.Laws.Rows
import Derived.Lib.AppendStr
import Derived.ArgAppend
import Derived.Laws.IdiomCopy
import Derived.OrdersHeld
import Derived.Laws.BitsLemmas
import Derived.RowKit
import Derived.Test.YthhfgchbpgcfmaaWWords
import Derived.Test.YthhfgchbpgcfmaaWLast
import Derived.Test.YthhfgchbpgcfmaaWTab
import Derived.Test.YthhfgchbpgcfmaaWFour
import Derived.Test.YthhfgchbpgcfmaaWQPut
import Derived.Test.YthhfgchbpgcfmaaWApart
import Derived.Test.YthhfgchbpgcfmaaWArr
import Derived.Test.YthhfgchbpgcfmaaWZeros
import Derived.Test.YthhfgchbpgcfmaaWFoot
import Derived.Test.YthhfgchbpgcfmaaWKept
import Derived.Test.YthhfgchbpgcfmaaWShare
import Derived.Test.YthhfgchbpgcfmaaWN
import Derived.Test.YthhfgchbpgcfmaaWFootNe
import Derived.Test.YthhfgchbpgcfmaaWAt
import Derived.Test.YthhfgchbpgcfmaaWEqStruct
import Derived.Test.YthhfgchbpgcfmaaWRepsOne
import Derived.Test.YthhfgchbpgcfmaaWInv
import Derived.Test.YthhfgchbpgcfmaaWInvWords
import Derived.Test.YthhfgchbpgcfmaaWGuard
import Derived.Test.YthhfgchbpgcfmaaWNEv
import Derived.Test.YthhfgchbpgcfmaaWMore
namespace Go.Proofs.Ythhfgchbpgcfmaa.QWord
open Go.RowKit Go.Proofs.YthhfgchbpgcfmaaW.PrintWords Go.Proofs.YthhfgchbpgcfmaaW.PrintLast Go.Proofs.YthhfgchbpgcfmaaW.PrintMore
attribute [local go_sem] max2_int min2_int max_two min_two max_three min_three max_four min_four   -- for this text's walks alone
set_option linter.unusedVariables false
set_option linter.unusedSimpArgs false



def errW : Option Int → Value
  | none => .nilIface
  | some c => .iface 0 (.int .i64 c)
theorem errW_none : errW none = .nilIface := rfl
theorem errW_some (c : Int) : errW (some c) = .iface 0 (.int .i64 c) := rfl

-- the values' own types

end Go.Proofs.Ythhfgchbpgcfmaa.QWord

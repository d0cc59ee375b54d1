/- The kinds of values of this seat's types. (Printed or laid by this session's program wip/pr.py.) -/
import Derived.Test.YtfcbeodndplenaaProg
import Derived.Below
import Derived.Deep.Draws
import Derived.Deep.AppendLies
import Derived.Maps.AppendAt
import Derived.OwnWalk
import Derived.Laws.BytesArg
import Derived.Laws.MakeOwn
import Derived.Laws.OwnMore
import Derived.Deep.OwnRows
import Derived.Tactics
import Derived.Lib.ConvBytes
import Derived.Laws.Slices
import Derived.WalkKit
import Derived.KernelRfl
import Derived.RowKit3
import Derived.Deep.LoopGhost
import Derived.Deep.QuietTactic
import Derived.BigQuiet
import Derived.WideLaws
import Derived.Deep.DeepCutAuto
import Derived.Deep.CutBlock
import Derived.Deep.RegionHeld3
import Derived.Laws.Rows
import Derived.Lib.AppendStr
import Derived.ArgAppend
import Derived.Laws.IdiomCopy
import Derived.OrdersHeld
import Derived.Laws.BitsLemmas
import Derived.RowKit
import Derived.Test.YtfcbeodndplenaaWWords
import Derived.Test.YtfcbeodndplenaaWLast
import Derived.Test.YtfcbeodndplenaaWTab
import Derived.Test.YtfcbeodndplenaaWFour
import Derived.Test.YtfcbeodndplenaaWQPut
import Derived.Test.YtfcbeodndplenaaWApart
import Derived.Test.YtfcbeodndplenaaWArr
import Derived.Test.YtfcbeodndplenaaWZeros
import Derived.Test.YtfcbeodndplenaaWFoot
import Derived.Test.YtfcbeodndplenaaWKept
import Derived.Test.YtfcbeodndplenaaWShare
import Derived.Test.YtfcbeodndplenaaWN
import Derived.Test.YtfcbeodndplenaaWFootNe
import Derived.Test.YtfcbeodndplenaaWAt
import Derived.Test.YtfcbeodndplenaaWEqStruct
import Derived.Test.YtfcbeodndplenaaWRepsOne
import Derived.Test.YtfcbeodndplenaaWInv
import Derived.Test.YtfcbeodndplenaaWInvWords
import Derived.Test.YtfcbeodndplenaaWGuard
import Derived.Test.YtfcbeodndplenaaWNEv
import Derived.Test.YtfcbeodndplenaaWMore
namespace Go.Proofs.Ytfcbeodndplenaa.K
open Go.RowKit Go.Proofs.YtfcbeodndplenaaW.PrintWords Go.Proofs.YtfcbeodndplenaaW.PrintLast Go.Proofs.YtfcbeodndplenaaW.PrintMore
attribute [local go_sem] max2_int min2_int max_two min_two max_three min_three max_four min_four
set_option linter.unusedVariables false
set_option linter.unusedSimpArgs false

def errW : Option Int → Value
  | none => .nilIface
  | some c => .iface 0 (.int .i64 c)
theorem errW_none : errW none = .nilIface := rfl
theorem errW_some (c : Int) : errW (some c) = .iface 0 (.int .i64 c) := rfl

theorem info3 : (Try.prog.info? 3).map (fun i => (i.zero, i.size, i.bytes)) = some (some (.int .i64 0), 1, 8) := by kernel_rfl
theorem info4 : (Try.prog.info? 4).map (fun i => (i.zero, i.size, i.bytes)) = some (some (.bool false), 1, 1) := by kernel_rfl

end Go.Proofs.Ytfcbeodndplenaa.K

import Derived.Test.YtjcfimnijpcjmaaDoorProg
import Derived.Below
import Derived.Deep.Draws
import Derived.Deep.AppendLies
import Derived.Maps.AppendAt
import Derived.OwnWalk
import Derived.Laws.BytesArg
import Derived.Laws.MakeOwn
import Derived.Laws.OwnMore
import Derived.Deep.OwnRows
import Derived.Tactics
import Derived.Lib.ConvBytes
import Derived.Laws.Slices
import Derived.WalkKit
import Derived.KernelRfl
import Derived.RowKit3
import Derived.Deep.LoopGhost
import Derived.Deep.QuietTactic
import Derived.BigQuiet
import Derived.WideLaws
import Derived.Deep.DeepCutAuto
import Derived.Deep.CutBlock
import Derived.Deep.RegionHeld3
import Derived.Laws.Rows
import Derived.Lib.AppendStr
import Derived.ArgAppend
import Derived.Laws.IdiomCopy
import Derived.OrdersHeld
import Derived.Laws.BitsLemmas
import Derived.RowKit
import Derived.WalkMore
import Derived.Test.YtjcfimnijpcjmaaDoorZcHShaD
import Derived.Test.YtjcfimnijpcjmaaDoorZcPS
import Derived.Test.YtjcfimnijpcjmaaDoorZcPR
import Derived.Test.YtjcfimnijpcjmaaDoorZcPT
import Derived.Test.YtjcfimnijpcjmaaDoorZcHNode
import Derived.Test.YtjcfimnijpcjmaaDoorZcWWords
import Derived.Test.YtjcfimnijpcjmaaDoorZcWLast
import Derived.Test.YtjcfimnijpcjmaaDoorZcWTab
import Derived.Test.YtjcfimnijpcjmaaDoorZcWApart
import Derived.Test.YtjcfimnijpcjmaaDoorZcWFoot
import Derived.Test.YtjcfimnijpcjmaaDoorZcWKept
import Derived.Test.YtjcfimnijpcjmaaDoorZcWShare
import Derived.Test.YtjcfimnijpcjmaaDoorZcWN
import Derived.Laws.StructEq
import Derived.Test.YtjcfimnijpcjmaaDoorZcWRepsOne
import Derived.Test.YtjcfimnijpcjmaaDoorZcWInv
import Derived.Test.YtjcfimnijpcjmaaDoorZcWGuard
import Derived.Test.YtjcfimnijpcjmaaDoorZcWMore
-- PRINTED by print.py (a twelfth state) out of the translation. Not trusted: Lean checks it.
namespace Go.Proofs.YtjcfimnijpcjmaaDoor.PSealTwo
open Go.RowKit  Go.Proofs.YtjcfimnijpcjmaaDoor.HSha Go.Proofs.YtjcfimnijpcjmaaDoor.PS Go.Proofs.YtjcfimnijpcjmaaDoor.PR Go.Proofs.YtjcfimnijpcjmaaDoor.PT Go.Proofs.YtjcfimnijpcjmaaDoor.HNode Go.Proofs.YtjcfimnijpcjmaaDoorW.PrintWords Go.Proofs.YtjcfimnijpcjmaaDoorW.PrintLast Go.Proofs.YtjcfimnijpcjmaaDoorW.PrintMore
attribute [local go_sem] max2_int min2_int max_two min_two max_three min_three max_four min_four   -- for this text's walks alone
set_option linter.unusedVariables false
set_option linter.unusedSimpArgs false
def errW : Option Int → Value
 | none => .nilIface
 | some c => .iface 0 (.int .i64 c)
theorem errW_none : errW none = .nilIface := rfl
theorem errW_some (c : Int) : errW (some c) = .iface 0 (.int .i64 c) := rfl
-- the values' own types
end Go.Proofs.YtjcfimnijpcjmaaDoor.PSealTwo

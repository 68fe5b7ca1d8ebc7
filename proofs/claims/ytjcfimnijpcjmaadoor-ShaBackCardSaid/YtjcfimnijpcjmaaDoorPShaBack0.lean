-- PRINTED by print.py (a twelfth state) out of the translation. Not trusted: Lean checks it.
import Derived.Test.YtjcfimnijpcjmaaDoorProg
import Derived.Below
import Derived.Deep.Draws
import Derived.Deep.AppendLies
import Derived.Maps.AppendAt
import Derived.OwnWalk
import Derived.Laws.BytesArg
import Derived.Laws.MakeOwn
import Derived.Laws.OwnMore
import Derived.Deep.OwnRows
import Derived.Tactics
import Derived.Lib.ConvBytes
import Derived.Laws.Slices
import Derived.WalkKit
import Derived.KernelRfl
import Derived.RowKit3
import Derived.Deep.LoopGhost
import Derived.Deep.QuietTactic
import Derived.BigQuiet
import Derived.WideLaws
import Derived.Deep.DeepCutAuto
import Derived.Deep.CutBlock
import Derived.Deep.RegionHeld3
import Derived.Laws.Rows
import Derived.Lib.AppendStr
import Derived.ArgAppend
import Derived.Laws.IdiomCopy
import Derived.OrdersHeld
import Derived.Laws.BitsLemmas
import Derived.RowKit
import Derived.Test.YtjcfimnijpcjmaaDoorHShaD
import Derived.Test.YtjcfimnijpcjmaaDoorPS
import Derived.Test.YtjcfimnijpcjmaaDoorPX
import Derived.Test.YtjcfimnijpcjmaaDoorPK
import Derived.Test.YtjcfimnijpcjmaaDoorWWords
import Derived.Test.YtjcfimnijpcjmaaDoorWLast
import Derived.Test.YtjcfimnijpcjmaaDoorWTab
import Derived.Test.YtjcfimnijpcjmaaDoorWFour
import Derived.Test.YtjcfimnijpcjmaaDoorWQPut
import Derived.Test.YtjcfimnijpcjmaaDoorWApart
import Derived.Test.YtjcfimnijpcjmaaDoorWArr
import Derived.Test.YtjcfimnijpcjmaaDoorWZeros
import Derived.Test.YtjcfimnijpcjmaaDoorWFoot
import Derived.Test.YtjcfimnijpcjmaaDoorWKept
import Derived.Test.YtjcfimnijpcjmaaDoorWShare
import Derived.Test.YtjcfimnijpcjmaaDoorWN
import Derived.Test.YtjcfimnijpcjmaaDoorWFootNe
import Derived.Test.YtjcfimnijpcjmaaDoorWAt
import Derived.Test.YtjcfimnijpcjmaaDoorWEqStruct
import Derived.Test.YtjcfimnijpcjmaaDoorWRepsOne
import Derived.Test.YtjcfimnijpcjmaaDoorWInv
import Derived.Test.YtjcfimnijpcjmaaDoorWInvWords
import Derived.Test.YtjcfimnijpcjmaaDoorWGuard
import Derived.Test.YtjcfimnijpcjmaaDoorWNEv
import Derived.Test.YtjcfimnijpcjmaaDoorWMore
namespace Go.Proofs.YtjcfimnijpcjmaaDoor.PShaBack
open Go.RowKit Go.Proofs.YtjcfimnijpcjmaaDoor.HSha Go.Proofs.YtjcfimnijpcjmaaDoor.PS Go.Proofs.YtjcfimnijpcjmaaDoor.PX Go.Proofs.YtjcfimnijpcjmaaDoor.PK Go.Proofs.YtjcfimnijpcjmaaDoorW.PrintWords Go.Proofs.YtjcfimnijpcjmaaDoorW.PrintLast Go.Proofs.YtjcfimnijpcjmaaDoorW.PrintMore
attribute [local go_sem] max2_int min2_int max_two min_two max_three min_three max_four min_four   -- for this text's walks alone
set_option linter.unusedVariables false
set_option linter.unusedSimpArgs false



def errW : Option Int → Value
  | none => .nilIface
  | some c => .iface 0 (.int .i64 c)
theorem errW_none : errW none = .nilIface := rfl
theorem errW_some (c : Int) : errW (some c) = .iface 0 (.int .i64 c) := rfl

-- the values' own types

end Go.Proofs.YtjcfimnijpcjmaaDoor.PShaBack

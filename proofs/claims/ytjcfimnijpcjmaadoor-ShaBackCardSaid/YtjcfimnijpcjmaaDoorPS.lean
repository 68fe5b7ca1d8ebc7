-- PRINTED by print.py (a twelfth state) out of the translation. Not trusted: Lean checks it.
import Derived.Test.YtjcfimnijpcjmaaDoorPS0
import Derived.Test.YtjcfimnijpcjmaaDoorPS1
import Derived.Test.YtjcfimnijpcjmaaDoorPS2
namespace Go.Proofs.YtjcfimnijpcjmaaDoor.PS
open Go.RowKit Go.Proofs.YtjcfimnijpcjmaaDoor.HSha Go.Proofs.YtjcfimnijpcjmaaDoorW.PrintWords Go.Proofs.YtjcfimnijpcjmaaDoorW.PrintLast Go.Proofs.YtjcfimnijpcjmaaDoorW.PrintMore
attribute [local go_sem] max2_int min2_int max_two min_two max_three min_three max_four min_four   -- for this text's walks alone
set_option linter.unusedVariables false
set_option linter.unusedSimpArgs false

end Go.Proofs.YtjcfimnijpcjmaaDoor.PS

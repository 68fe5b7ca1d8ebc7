import Derived.Test.YtpmefpdafkbphaaDoorZrHZ
import Derived.Test.YtpmefpdafkbphaaDoorZrHBulk
import Derived.Test.YtpmefpdafkbphaaDoorZrPQ0
-- PRINTED by print.py (a twelfth state) out of the translation. Not trusted: Lean checks it.
namespace Go.Proofs.YtpmefpdafkbphaaDoor.PQ
open Go.Proofs.YtpmefpdafkbphaaDoor.HZ Go.RowKit Go.Proofs.YtpmefpdafkbphaaDoor Go.Proofs.YtpmefpdafkbphaaDoor.HSha Go.Proofs.YtpmefpdafkbphaaDoor.PS Go.Proofs.YtpmefpdafkbphaaDoor.PR Go.Proofs.YtpmefpdafkbphaaDoor.PT Go.Proofs.YtpmefpdafkbphaaDoor.PB Go.Proofs.YtpmefpdafkbphaaDoor.HNode Go.Proofs.YtpmefpdafkbphaaDoor.PC Go.Proofs.YtpmefpdafkbphaaDoor.HBytes8 Go.Proofs.YtpmefpdafkbphaaDoorW.PrintWords Go.Proofs.YtpmefpdafkbphaaDoorW.PrintLast Go.Proofs.YtpmefpdafkbphaaDoorW.PrintMore
attribute [local go_sem] max2_int min2_int max_two min_two max_three min_three max_four min_four   -- for this text's walks alone
set_option linter.unusedVariables false
set_option linter.unusedSimpArgs false
/-! ### clash_Posts: function 39 -/
/-! ### clash_Head: function 42 -/
/-! ### rubrickref08_Between: function 40 -/
/-! ### rubrickref08_top: function 64 -/
/-! ### rubrickref08_Leaf: function 29 -/
end Go.Proofs.YtpmefpdafkbphaaDoor.PQ

import Derived.Test.YtpmefpdafkbphaaDoorZlPQ3
namespace Go.Proofs.YtpmefpdafkbphaaDoor.PQ
open HZ Go.RowKit Go.Proofs.YtpmefpdafkbphaaDoor HSha PS PR PT PB HNode PC HBytes8 Go.Proofs.YtpmefpdafkbphaaDoorW.PrintWords Go.Proofs.YtpmefpdafkbphaaDoorW.PrintLast Go.Proofs.YtpmefpdafkbphaaDoorW.PrintMore
attribute [local go_sem] max2_int min2_int max_two min_two max_three min_three max_four min_four
set_option linter.unusedVariables false
set_option linter.unusedSimpArgs false
end Go.Proofs.YtpmefpdafkbphaaDoor.PQ

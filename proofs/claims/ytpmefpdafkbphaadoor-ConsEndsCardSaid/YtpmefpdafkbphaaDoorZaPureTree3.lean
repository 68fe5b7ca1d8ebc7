import Derived.Test.YtpmefpdafkbphaaDoorZaPureTree2
namespace Go.Proofs.YtpmefpdafkbphaaDoor.PureTree
open Go.RowKit Go.Proofs.YtpmefpdafkbphaaDoor.HSha Go.Proofs.YtpmefpdafkbphaaDoor.PS Go.Proofs.YtpmefpdafkbphaaDoor.PB Go.Proofs.YtpmefpdafkbphaaDoor.PureS Go.Proofs.YtpmefpdafkbphaaDoor.PureO Go.Proofs.YtpmefpdafkbphaaDoor.Thy Go.Proofs.YtpmefpdafkbphaaDoor.Evl Go.Proofs.YtpmefpdafkbphaaDoorW.PrintWords Go.Proofs.YtpmefpdafkbphaaDoorW.PrintLast
set_option linter.unusedVariables false
/-- A list of sides, turned round as far as to place j. -/
def half (s : List Bool) (j : Nat) : List Bool := (List.range s.length).map fun p => if p < j ∨ s.length - j ≤ p then s.getD (s.length - 1 - p) false else s.getD p false
end Go.Proofs.YtpmefpdafkbphaaDoor.PureTree

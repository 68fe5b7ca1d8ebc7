import Derived.Test.YtpmefpdafkbphaaDoorZrPL
import Derived.Test.YtpmefpdafkbphaaDoorZrPureS
import Derived.Test.YtpmefpdafkbphaaDoorZrEvl
namespace Go.Proofs.YtpmefpdafkbphaaDoor.PureClash
open Go.RowKit Go.Proofs.YtpmefpdafkbphaaDoor.PL Go.Proofs.YtpmefpdafkbphaaDoor.PureS Go.Proofs.YtpmefpdafkbphaaDoor.Evl
theorem knows08E : Evl (fun k => (rubricklaw08_knows.f k).bind fun t => some t) true :=
  Evl.bind (f := fun k => rubricklaw08_knows.f k) ⟨_, up rubricklaw08_knows.mono rubricklaw08_knows.sure⟩ (Evl.ret _)
end Go.Proofs.YtpmefpdafkbphaaDoor.PureClash

import Derived.Test.YtpmefpdafkbphaaDoorZaPK
import Derived.Test.YtpmefpdafkbphaaDoorZaPureCons2
namespace Go.Proofs.YtpmefpdafkbphaaDoor.PureCons
open Go.RowKit Go.Proofs.YtpmefpdafkbphaaDoor.PK Go.Proofs.YtpmefpdafkbphaaDoor.PureS Go.Proofs.YtpmefpdafkbphaaDoor.Evl
theorem knows07E : Evl (fun k => (rubricklaw07_knows.f k).bind fun t => some t) true :=
  Evl.bind (f := fun k => rubricklaw07_knows.f k) ⟨_, up rubricklaw07_knows.mono rubricklaw07_knows.sure⟩ (Evl.ret _)
end Go.Proofs.YtpmefpdafkbphaaDoor.PureCons

/- The law ShaSums in plain Lean. -/
import Derived.Test.YtjcfimnijpcjmaaDoorPShaSums1
import Derived.Test.YtjcfimnijpcjmaaDoorPureK
import Derived.Test.YtjcfimnijpcjmaaDoorPureR
namespace Go.Proofs.YtjcfimnijpcjmaaDoor.Pure
open Go.RowKit Go.Proofs.YtjcfimnijpcjmaaDoor.HSha Go.Proofs.YtjcfimnijpcjmaaDoor.PS Go.Proofs.YtjcfimnijpcjmaaDoor.PX Go.Proofs.YtjcfimnijpcjmaaDoor.PK Go.Proofs.YtjcfimnijpcjmaaDoor.PR Go.Proofs.YtjcfimnijpcjmaaDoor.PureS Go.Proofs.YtjcfimnijpcjmaaDoor.PureK Go.Proofs.YtjcfimnijpcjmaaDoor.PureR Go.Proofs.YtjcfimnijpcjmaaDoor.PShaSums Go.Proofs.YtjcfimnijpcjmaaDoorW.PrintWords Go.Proofs.YtjcfimnijpcjmaaDoorW.PrintLast
theorem ShaSums : rubricklaw01_ShaSums.Pure := by
  intro l0 h1 h2 hw
  refine ⟨6000, ?_⟩
  have hk := knows01U 6000 (by omega)
  unfold rubricklaw01_ShaSums.f
  by_cases hg : (l0.length : Int) > 5000
  · rw [if_pos hg, hk]; rfl
  · rw [if_neg hg]
    simp only [Option.bind_some, List.nil_append, List.length_nil, Nat.zero_add]
    rw [if_pos (by omega), sumF (by omega), refF l0 (bytes_wf hw) (by omega) 6000 (by omega)]
    simp only [Option.bind_some]
    rw [if_pos trivial, if_pos (by rw [shaSum_size]; rfl), hk]
    rfl
end Go.Proofs.YtjcfimnijpcjmaaDoor.Pure

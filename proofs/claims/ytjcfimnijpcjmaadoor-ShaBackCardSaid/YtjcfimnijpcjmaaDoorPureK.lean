/- What the first layer's statements know, in plain Lean. -/
import Derived.Test.YtjcfimnijpcjmaaDoorPK
import Derived.Test.YtjcfimnijpcjmaaDoorPureS
namespace Go.Proofs.YtjcfimnijpcjmaaDoor.PureK
open Go.RowKit Go.Proofs.YtjcfimnijpcjmaaDoor.HSha Go.Proofs.YtjcfimnijpcjmaaDoor.PS Go.Proofs.YtjcfimnijpcjmaaDoor.PX Go.Proofs.YtjcfimnijpcjmaaDoor.PK Go.Proofs.YtjcfimnijpcjmaaDoor.PureS Go.Proofs.YtjcfimnijpcjmaaDoorW.PrintWords Go.Proofs.YtjcfimnijpcjmaaDoorW.PrintLast
set_option maxRecDepth 1000000 in
theorem knows01 : rubricklaw01_knows.f 200 = some true := by decide +kernel
theorem knows01U (k : Nat) (h : 200 ≤ k) : rubricklaw01_knows.f k = some true := up rubricklaw01_knows.mono knows01 k h
theorem bytes_wf {l : List Int} (h : ∀ x ∈ l, (Lit.int .u8 x).wf = true) : ∀ x ∈ l, 0 ≤ x ∧ x < 256 := by
  intro x hx
  have := h x hx
  simp [Lit.wf, IntKind.min, IntKind.max, IntKind.signed, IntKind.bits] at this
  omega
end Go.Proofs.YtjcfimnijpcjmaaDoor.PureK

/- The law ShaHex in plain Lean. -/
import Derived.Test.YtjcfimnijpcjmaaDoorPShaHex1
import Derived.Test.YtjcfimnijpcjmaaDoorPureK
import Derived.Test.YtjcfimnijpcjmaaDoorPureX
namespace Go.Proofs.YtjcfimnijpcjmaaDoor.Pure
open Go.RowKit Go.Proofs.YtjcfimnijpcjmaaDoor.HSha Go.Proofs.YtjcfimnijpcjmaaDoor.PS Go.Proofs.YtjcfimnijpcjmaaDoor.PX Go.Proofs.YtjcfimnijpcjmaaDoor.PK Go.Proofs.YtjcfimnijpcjmaaDoor.PureS Go.Proofs.YtjcfimnijpcjmaaDoor.PureK Go.Proofs.YtjcfimnijpcjmaaDoor.PureX Go.Proofs.YtjcfimnijpcjmaaDoor.PShaHex Go.Proofs.YtjcfimnijpcjmaaDoorW.PrintWords Go.Proofs.YtjcfimnijpcjmaaDoorW.PrintLast
theorem hex_early (d s : ByteArray) : rubricklaw01_ShaHex.j0 5000 d s true = some true := by
  rw [show (5000 : Nat) = 4999 + 1 from rfl]
  simp only [rubricklaw01_ShaHex.j0, if_true]
  rw [knows01U 4999 (by omega)]
  rfl
theorem hex_late (d s : ByteArray) (hd : d.size ≤ 1000) (hs : s.size ≤ 1000) : rubricklaw01_ShaHex.j0 5000 d s false = some true := by
  have hk := knows01U 4999 (by omega)
  rw [show (5000 : Nat) = 4999 + 1 from rfl]
  simp only [rubricklaw01_ShaHex.j0, Bool.false_eq_true, if_false]
  rw [fromF s (by omega) 4999 (by omega), rfromF s (by omega) 4999 (by omega), hexF d (by omega) 4999 (by omega), rhexF d (by omega) 4999 (by omega)]
  cases fh (bytesOf s) <;> simp [hk]
theorem ShaHex : rubricklaw01_ShaHex.Pure := by
  intro d s h1 h2
  refine ⟨5000, ?_⟩
  unfold rubricklaw01_ShaHex.f
  by_cases hd : (d.size : Int) > 1000
  · rw [if_pos hd]; exact hex_early _ _
  · rw [if_neg hd]
    by_cases hs : (s.size : Int) > 1000
    · rw [decide_eq_true hs]; exact hex_early _ _
    · rw [decide_eq_false hs]; exact hex_late _ _ (by omega) (by omega)
end Go.Proofs.YtjcfimnijpcjmaaDoor.Pure

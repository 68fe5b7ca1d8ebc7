/- The law SealClashes in plain Lean. -/
import Derived.Test.YtjcfimnijpcjmaaDoorPClashes1
import Derived.Test.YtjcfimnijpcjmaaDoorPureT
namespace Go.Proofs.YtjcfimnijpcjmaaDoor.Pure
open Go.RowKit Go.Proofs.YtjcfimnijpcjmaaDoor.HSha Go.Proofs.YtjcfimnijpcjmaaDoor.PS Go.Proofs.YtjcfimnijpcjmaaDoor.PR Go.Proofs.YtjcfimnijpcjmaaDoor.PT Go.Proofs.YtjcfimnijpcjmaaDoor.PureS Go.Proofs.YtjcfimnijpcjmaaDoor.PureR Go.Proofs.YtjcfimnijpcjmaaDoor.PureT Go.Proofs.YtjcfimnijpcjmaaDoor.PClashes Go.Proofs.YtjcfimnijpcjmaaDoorW.PrintWords Go.Proofs.YtjcfimnijpcjmaaDoorW.PrintLast
theorem clashes_early (a b : List Int) : rubricklaw03_SealClashes.j0 3000 a b true = some true := by
  rw [show (3000 : Nat) = 2999 + 1 from rfl]
  simp only [rubricklaw03_SealClashes.j0, if_true]
  rw [knows03U 2999 (by omega)]
  rfl
theorem clashes_late (a b : List Int) (ha : ∀ x ∈ a, 0 ≤ x ∧ x < 256) (hb : ∀ x ∈ b, 0 ≤ x ∧ x < 256) (h1 : a.length ≤ 2000) (h2 : b.length ≤ 2000) : rubricklaw03_SealClashes.j0 3000 a b false = some true := by
  have hk := knows03U 2998 (by omega)
  rw [show (3000 : Nat) = 2998 + 1 + 1 from rfl]
  simp only [rubricklaw03_SealClashes.j0, Bool.false_eq_true, if_false]
  rw [betweenF a b (by omega) (by omega), clashF _ a b ha hb (by omega) (by omega) (by omega) (by omega), isF a b (by omega) (by omega)]
  simp only [Option.bind_some]
  cases hB : isB a b
  · simp [rubricklaw03_SealClashes.j1, hk]
  · simp [rubricklaw03_SealClashes.j1, hk]
theorem SealClashes : rubricklaw03_SealClashes.Pure := by
  intro l0 l1 h1 h2 hw0 h3 h4 hw1
  refine ⟨3000, ?_⟩
  unfold rubricklaw03_SealClashes.f
  rw [greatF, greatF]
  simp only [Option.bind_some]
  by_cases hg : 2000 < l0.length
  · rw [if_pos (by simpa using hg)]; exact clashes_early _ _
  · rw [if_neg (by simpa using hg)]
    by_cases hg2 : 2000 < l1.length
    · rw [decide_eq_true hg2]; exact clashes_early _ _
    · rw [decide_eq_false hg2]; exact clashes_late _ _ (bytes_wf hw0) (bytes_wf hw1) (by omega) (by omega)
end Go.Proofs.YtjcfimnijpcjmaaDoor.Pure

/- The law SealLens in plain Lean: each seal has 32 bytes, and what is alike is sealed alike. -/
import Derived.Test.YtjcfimnijpcjmaaDoorPLens1
import Derived.Test.YtjcfimnijpcjmaaDoorPureS
namespace Go.Proofs.YtjcfimnijpcjmaaDoor.Pure
open Go.RowKit Go.Proofs.YtjcfimnijpcjmaaDoor.HSha Go.Proofs.YtjcfimnijpcjmaaDoor.PS Go.Proofs.YtjcfimnijpcjmaaDoor.PureS Go.Proofs.YtjcfimnijpcjmaaDoor.PLens Go.Proofs.YtjcfimnijpcjmaaDoorW.PrintWords Go.Proofs.YtjcfimnijpcjmaaDoorW.PrintLast
theorem lens_early (l : List Int) (a b : ByteArray) : rubricklaw03_SealLens.j0 100 l a b true = some true := by
  rw [show (100 : Nat) = 99 + 1 from rfl]
  simp only [rubricklaw03_SealLens.j0, if_true]
  rw [knows03]
  rfl
theorem lens_late (l : List Int) (a b : ByteArray) (hl : l.length ≤ 2000) (ha : a.size = 32) (hb : b.size = 32) : rubricklaw03_SealLens.j0 100 l a b false = some true := by
  have hN := nodeF 95 a b
  rw [if_pos ⟨ha, hb⟩] at hN
  have hL := leafF 97 l (by omega)
  have hP := postsF 97 l (by omega)
  have hH := headF 97 l (by omega)
  have hsz : ∀ x, ((shaSum x).size : Int) = 32 := fun x => by rw [shaSum_size]; rfl
  rw [show (100 : Nat) = 99 + 1 from rfl]
  simp only [rubricklaw03_SealLens.j0, Bool.false_eq_true, if_false]
  simp only [show (99 : Nat) = 95 + 4 from rfl, hN, Option.bind_some, List.length_nil, Nat.zero_add, List.nil_append]
  rw [if_pos (by omega)]
  simp only [show (95 + 4 : Nat) = 97 + 2 from rfl, hL, hP, hH, Option.bind_some, hsz, if_true]
  have hk := knows03
  rw [show (99 : Nat) = 97 + 2 from rfl] at hk
  rw [hk]
  rfl
theorem SealLens : rubricklaw03_SealLens.Pure := by
  intro l0 a1 a2 h1 h2 hw h3 h4
  refine ⟨100, ?_⟩
  unfold rubricklaw03_SealLens.f
  rw [greatF]
  simp only [Option.bind_some]
  by_cases hg : 2000 < l0.length
  · rw [if_pos (by simpa using hg)]; exact lens_early _ _ _
  · rw [if_neg (by simpa using hg)]
    by_cases ha : a1.size = 32
    · rw [if_pos (by omega)]
      by_cases hb : a2.size = 32
      · rw [show ((a2.size : Int) != 32) = false by simp [hb]]
        exact lens_late _ _ _ (by omega) ha hb
      · rw [show ((a2.size : Int) != 32) = true by simp; omega]
        exact lens_early _ _ _
    · rw [if_neg (by omega)]; exact lens_early _ _ _
end Go.Proofs.YtjcfimnijpcjmaaDoor.Pure

import Derived.Test.YtgcfhgkhokljcaaDoorZaPTreePaths
import Derived.Test.YtgcfhgkhokljcaaDoorZaPureTreeK
namespace Go.Proofs.YtgcfhgkhokljcaaDoor.Pure
open Go.RowKit Go.Proofs.YtgcfhgkhokljcaaDoor.HSha Go.Proofs.YtgcfhgkhokljcaaDoor.PS Go.Proofs.YtgcfhgkhokljcaaDoor.PB Go.Proofs.YtgcfhgkhokljcaaDoor.PC Go.Proofs.YtgcfhgkhokljcaaDoor.PK Go.Proofs.YtgcfhgkhokljcaaDoor.PureS Go.Proofs.YtgcfhgkhokljcaaDoor.PureO Go.Proofs.YtgcfhgkhokljcaaDoor.PureTree Go.Proofs.YtgcfhgkhokljcaaDoor.Thy Go.Proofs.YtgcfhgkhokljcaaDoor.Evl Go.Proofs.YtgcfhgkhokljcaaDoor.PTreePaths Go.Proofs.YtgcfhgkhokljcaaDoorW.PrintWords Go.Proofs.YtgcfhgkhokljcaaDoorW.PrintLast
set_option linter.unusedVariables false
theorem TreePaths (l : List ByteArray) (i : Int) (hl : l.length ≤ 9223372036854775807 ∧ ∀ x ∈ l, x.size ≤ 9223372036854775807) (hi : (Lit.int .i64 i).wf = true) : ∃ k, rubricklaw06_TreePaths.f k l i = some true := by
  refine Evl.ex (f := fun k => rubricklaw06_TreePaths.f k l i) ?_
  unfold rubricklaw06_TreePaths.f
  refine Evl.bind (greatE l hl.1) ?_
  cases hg : greatD l
  rotate_left
  · exact Evl.pos rfl knows06E
  have h100 := great_len hg
  refine Evl.neg (by simp) (Evl.bind (tpathE l (by omega) i) (Evl.bind (rrightE l (by omega)) ?_))
  have bad : Evl (fun k => rubricklaw06_TreePaths.j0 k l i [] 1 true) true := Evl.step (fun _ => rubricklaw06_TreePaths.j0.eq_2 ..) (Evl.pos rfl (Evl.pos rfl (Evl.pos rfl knows06E)))
  cases ok : okD l
  · rw [if_neg (by simp)]
    exact Evl.neg (by simp) bad
  refine Evl.pos rfl ?_
  by_cases h1 : i < 0
  · rw [if_neg (by omega)]
    exact Evl.pos h1 bad
  refine Evl.neg h1 ?_
  by_cases h2 : i ≥ (l.length : Int)
  · rw [if_neg (by omega), decide_eq_true h2]
    exact bad
  rw [if_pos ⟨rfl, by omega, by omega⟩, decide_eq_false h2]
  obtain ⟨m, rfl⟩ := Int.eq_ofNat_of_zero_le (show 0 ≤ i by omega)
  rw [Int.toNat_natCast]
  have hp := path_len nodeD emptyD l.length l m rfl (by omega)
  have hs := steps_le 40 l.length m (by omega) (by omega)
  exact Evl.step (fun _ => rubricklaw06_TreePaths.j0.eq_2 ..) (Evl.neg (by simp) (Evl.bind (rpathE l.length l m rfl (by omega) (by omega) ok) (Evl.bind (sameE (path nodeD emptyD l m) (by omega)) (Evl.pos rfl (Evl.pos rfl knows06E)))))
end Go.Proofs.YtgcfhgkhokljcaaDoor.Pure

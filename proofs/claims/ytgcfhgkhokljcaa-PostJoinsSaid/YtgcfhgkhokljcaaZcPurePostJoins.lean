import Derived.Test.YtgcfhgkhokljcaaZcPPostJoins
import Derived.Test.YtgcfhgkhokljcaaZcPurePost5
namespace Go.Proofs.Ytgcfhgkhokljcaa.Pure
open Go.RowKit Go.Proofs.Ytgcfhgkhokljcaa.PA Go.Proofs.Ytgcfhgkhokljcaa.PPostJoins Go.Proofs.Ytgcfhgkhokljcaa.Evl Go.Proofs.Ytgcfhgkhokljcaa.PurePost Go.Proofs.YtgcfhgkhokljcaaW.PrintWords Go.Proofs.YtgcfhgkhokljcaaW.PrintLast Go.Proofs.YtgcfhgkhokljcaaW.PrintMore
set_option linter.unusedVariables false
theorem postJoinsE (a b : List Int) (lo hi : Int) : Evl (fun k => rubricklaw09_PostJoins.f k a b lo hi) true := by
  unfold rubricklaw09_PostJoins.f rubricklaw09_great.f
  refine Evl.some_bind ?_
  have out : ∀ a b : List Int, Evl (fun k => rubricklaw09_PostJoins.j0 k a b true lo hi) true := fun a b => Evl.step (fun _ => rubricklaw09_PostJoins.j0.eq_2 ..) (Evl.pos rfl knows09E)
  by_cases hg : (a.length : Int) > 300
  · rw [decide_eq_true hg]
    exact Evl.pos rfl (out _ _)
  rw [decide_eq_false hg]
  refine Evl.neg (by decide) (Evl.some_bind ?_)
  by_cases hg2 : (b.length : Int) > 300
  · rw [decide_eq_true hg2]
    exact out _ _
  rw [decide_eq_false hg2]
  have lB := right_len _ (-1) (by omega) (by omega) (both_right a b)
  have lE := right_len _ (-1) (by omega) (by omega) (either_right a b)
  have lN := right_len _ (-1) (by omega) (by omega) (but_right a b)
  have lI := in_len a lo hi
  refine Evl.step (fun _ => rubricklaw09_PostJoins.j0.eq_2 ..) (Evl.neg (by decide) (Evl.bind (bothE a b (by omega) (by omega)) (Evl.bind (pickE a b (by omega) (by omega) 0 (.inl rfl)) (Evl.bind (sameE _ _ (by omega)) (Evl.pos (decide_eq_true (both_pick a b)) ?_)))))
  refine Evl.bind (eitherE a b (by omega) (by omega)) (Evl.bind (pickE a b (by omega) (by omega) 1 (.inr (.inl rfl))) (Evl.bind (sameE _ _ (by omega)) (Evl.pos (decide_eq_true (either_pick a b)) ?_)))
  refine Evl.bind (butE a b (by omega) (by omega)) (Evl.bind (pickE a b (by omega) (by omega) 2 (.inr (.inr rfl))) (Evl.bind (sameE _ _ (by omega)) (Evl.pos (decide_eq_true (but_pick a b)) ?_)))
  exact Evl.bind (inE a (by omega) lo hi) (Evl.bind (refInE a (by omega) lo hi) (Evl.bind (sameE _ _ (by omega)) (Evl.pos (decide_eq_true rfl) knows09E)))
theorem PostJoins (a b : List Int) (lo hi : Int) (_ : a.length ≤ 9223372036854775807 ∧ ∀ x ∈ a, (Lit.int .i64 x).wf = true) (_ : b.length ≤ 9223372036854775807 ∧ ∀ x ∈ b, (Lit.int .i64 x).wf = true) (_ : (Lit.int .i64 lo).wf = true ∧ (Lit.int .i64 hi).wf = true) : ∃ k, rubricklaw09_PostJoins.f k a b lo hi = some true := Evl.ex (postJoinsE a b lo hi)
end Go.Proofs.Ytgcfhgkhokljcaa.Pure

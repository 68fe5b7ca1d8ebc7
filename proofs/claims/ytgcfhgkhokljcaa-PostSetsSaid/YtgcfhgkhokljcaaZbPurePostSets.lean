import Derived.Test.YtgcfhgkhokljcaaZbPPostSets
import Derived.Test.YtgcfhgkhokljcaaZbPurePost4
namespace Go.Proofs.Ytgcfhgkhokljcaa.Pure
open Go.RowKit Go.Proofs.Ytgcfhgkhokljcaa.PA Go.Proofs.Ytgcfhgkhokljcaa.PPostSets Go.Proofs.Ytgcfhgkhokljcaa.Evl Go.Proofs.Ytgcfhgkhokljcaa.PurePost Go.Proofs.YtgcfhgkhokljcaaW.PrintWords Go.Proofs.YtgcfhgkhokljcaaW.PrintLast Go.Proofs.YtgcfhgkhokljcaaW.PrintMore
set_option linter.unusedVariables false
theorem PostSets : rubricklaw09_PostSets.Pure := by
  intro a b _ _ hw0 _ _ hw1
  refine Evl.ex ?_
  unfold rubricklaw09_PostSets.f rubricklaw09_great.f
  refine Evl.some_bind ?_
  have out : ∀ a b : List Int, Evl (fun k => rubricklaw09_PostSets.j0 k a b true) true := fun a b => Evl.step (fun _ => rubricklaw09_PostSets.j0.eq_2 ..) (Evl.pos rfl knows09E)
  by_cases hg : (a.length : Int) > 300
  · rw [decide_eq_true hg]
    exact Evl.pos rfl (out _ _)
  rw [decide_eq_false hg]
  refine Evl.neg (by decide) (Evl.some_bind ?_)
  by_cases hg2 : (b.length : Int) > 300
  · rw [decide_eq_true hg2]
    exact out _ _
  rw [decide_eq_false hg2]
  have rB := both_right a b
  have rE := either_right a b
  have rN := but_right a b
  have lB := right_len _ (-1) (by omega) (by omega) rB
  have lE := right_len _ (-1) (by omega) (by omega) rE
  have lN := right_len _ (-1) (by omega) (by omega) rN
  have mB := both_mem a b
  have mE := either_mem a b
  have mN := but_mem a b
  have tB := rightE (bothL a b) (by omega)
  have tE := rightE (eitherL a b) (by omega)
  have tN := rightE (butL a b) (by omega)
  rw [rB] at tB
  rw [rE] at tE
  rw [rN] at tN
  refine Evl.step (fun _ => rubricklaw09_PostSets.j0.eq_2 ..) (Evl.neg (by decide) (Evl.bind (bothE a b (by omega) (by omega)) (Evl.bind (eitherE a b (by omega) (by omega)) (Evl.bind (butE a b (by omega) (by omega)) ?_))))
  refine Evl.bind tB (Evl.pos rfl (Evl.bind tE (Evl.pos rfl (Evl.bind tN (Evl.pos rfl (Evl.bind (bothE (bothL a b) (butL a b) (by omega) (by omega)) ?_))))))
  have e1 : bothL (bothL a b) (butL a b) = [] := by
    refine List.eq_nil_iff_forall_not_mem.2 fun z hz => ?_
    rw [both_mem, goodL_id rB, goodL_id rN, mB, mN] at hz
    exact hz.2.2 hz.1.2
  rw [e1]
  refine Evl.step (fun _ => rubricklaw09_PostSets.j1.eq_2 ..) (Evl.neg (by decide) (Evl.bind (rightE a (by omega)) ?_))
  have last : Evl (fun k => rubricklaw09_PostSets.j2 k a b (bothL a b) (eitherL a b) false) true := by
    refine Evl.step (fun _ => rubricklaw09_PostSets.j2.eq_2 ..) (Evl.neg (by decide) (Evl.bind (bothE b a (by omega) (by omega)) (Evl.bind (sameE _ _ (by omega)) ?_)))
    have e2 : bothL a b = bothL b a := right_ext _ _ _ rB (both_right b a) fun z => by rw [mB, both_mem b a]; exact and_comm
    have e3 : eitherL a b = eitherL b a := right_ext _ _ _ rE (either_right b a) fun z => by rw [mE, either_mem b a]; exact or_comm
    refine Evl.pos (decide_eq_true e2) (Evl.bind (eitherE b a (by omega) (by omega)) (Evl.bind (sameE _ _ (by omega)) (Evl.pos (decide_eq_true e3) knows09E)))
  by_cases h : rightFrom (-1) a = true
  · rw [h]
    refine Evl.pos rfl (Evl.bind (eitherE (bothL a b) (butL a b) (by omega) (by omega)) ?_)
    have e4 : eitherL (bothL a b) (butL a b) = a := by
      refine right_ext _ _ _ (either_right _ _) h fun z => ?_
      rw [either_mem, goodL_id rB, goodL_id rN, mB, mN, goodL_id h]
      constructor
      · rintro (h | h) <;> exact h.1
      · intro h
        by_cases hb : z ∈ goodL b
        · exact .inl ⟨h, hb⟩
        · exact .inr ⟨h, hb⟩
    rw [e4]
    refine Evl.bind (sameE a a (by omega)) ?_
    rw [decide_eq_true rfl]
    exact last
  · rw [Bool.not_eq_true] at h
    rw [h]
    exact Evl.neg (by decide) last
end Go.Proofs.Ytgcfhgkhokljcaa.Pure

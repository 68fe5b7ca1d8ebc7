import Derived.Test.YtgcfhgkhokljcaaZbPPostBack
import Derived.Test.YtgcfhgkhokljcaaZbPurePost3
namespace Go.Proofs.Ytgcfhgkhokljcaa.Pure
open Go.RowKit Go.Proofs.Ytgcfhgkhokljcaa.PA Go.Proofs.Ytgcfhgkhokljcaa.PPostBack Go.Proofs.Ytgcfhgkhokljcaa.Evl Go.Proofs.Ytgcfhgkhokljcaa.PurePost Go.Proofs.YtgcfhgkhokljcaaW.PrintWords Go.Proofs.YtgcfhgkhokljcaaW.PrintLast Go.Proofs.YtgcfhgkhokljcaaW.PrintMore
set_option linter.unusedVariables false
theorem postBack_tail (b : List Int) (hb : b.length ≤ 3000) (hr : ∀ x ∈ b, 0 ≤ x ∧ x < 256) : Evl (fun k => rubricklaw09_PostBack.j1 k b) true := by
  refine Evl.step (fun _ => rubricklaw09_PostBack.j1.eq_2 ..) (Evl.some_bind (Evl.pos (by simp; omega) ?_))
  rw [List.nil_append]
  refine Evl.bind (readE b (by omega) hr) ?_
  rcases read_any b hr with ⟨h1, h2⟩ | ⟨h1, h2, h3⟩
  · exact Evl.neg h1 (Evl.pos (by rw [h2]; rfl) knows09E)
  · have hl := right_len _ (-1) (by omega) (by omega) h2
    refine Evl.pos h1 (Evl.bind (writeE _ (by omega)) ?_)
    rw [if_pos h2, h3]
    refine Evl.pos rfl (Evl.pos rfl ?_)
    have := rightE (readL b).1 (by omega)
    rw [h2] at this
    exact Evl.bind this (Evl.pos rfl knows09E)
theorem PostBack : rubricklaw09_PostBack.Pure := by
  intro l0 l1 _ _ hw0 _ _ hw1
  have hr : ∀ x ∈ l1, 0 ≤ x ∧ x < 256 := fun x hx => by
    have := hw1 x hx
    simp [Lit.wf, IntKind.min, IntKind.max, IntKind.signed, IntKind.bits] at this
    omega
  refine Evl.ex ?_
  unfold rubricklaw09_PostBack.f rubricklaw09_great.f
  refine Evl.some_bind ?_
  by_cases hg : (l0.length : Int) > 300
  · rw [decide_eq_true hg]
    exact Evl.pos rfl (Evl.step (fun _ => rubricklaw09_PostBack.j0.eq_2 ..) (Evl.pos rfl knows09E))
  rw [decide_eq_false hg]
  refine Evl.neg (by decide) ?_
  by_cases hg2 : (l1.length : Int) > 3000
  · rw [decide_eq_true hg2]
    exact Evl.step (fun _ => rubricklaw09_PostBack.j0.eq_2 ..) (Evl.pos rfl knows09E)
  rw [decide_eq_false hg2]
  refine Evl.step (fun _ => rubricklaw09_PostBack.j0.eq_2 ..) (Evl.neg (by decide) (Evl.bind (writeE l0 (by omega)) ?_))
  have ht := postBack_tail l1 (by omega) hr
  by_cases h : rightFrom (-1) l0 = true
  · rw [if_pos h]
    have hwr : ∀ x ∈ writeL l0, 0 ≤ x ∧ x < 256 := fun x hx => by
      unfold writeL at hx
      rcases List.mem_append.1 hx with h | h
      · exact numE_range _ x h
      · exact gaps_range _ _ x h
    have hwl : (writeL l0).length ≤ 1000000 := by
      have h2 := numE_len 1 l0.length (by have : (128 : Nat) ^ (1 + 1) = 16384 := by decide
                                          omega)
      have := gaps_len l0 (-1) (by omega) h
      unfold writeL
      rw [List.length_append]
      omega
    refine Evl.pos rfl (Evl.bind (readE (writeL l0) hwl hwr) ?_)
    rw [read_write l0 h]
    refine Evl.bind (sameE l0 l0 (by omega)) (Evl.pos (by simp) (Evl.pos rfl ht))
  · rw [if_neg h]
    exact Evl.neg (by decide) ht
end Go.Proofs.Ytgcfhgkhokljcaa.Pure

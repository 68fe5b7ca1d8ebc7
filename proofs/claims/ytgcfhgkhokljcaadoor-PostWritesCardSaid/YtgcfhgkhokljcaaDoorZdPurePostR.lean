import Derived.Test.YtgcfhgkhokljcaaDoorZdPurePost3
namespace Go.Proofs.YtgcfhgkhokljcaaDoor.PurePost
open Go.RowKit Go.Proofs.YtgcfhgkhokljcaaDoor.PA Go.Proofs.YtgcfhgkhokljcaaDoor.Evl Go.Proofs.YtgcfhgkhokljcaaDoorW.PrintWords Go.Proofs.YtgcfhgkhokljcaaDoorW.PrintLast Go.Proofs.YtgcfhgkhokljcaaDoorW.PrintMore
set_option linter.unusedVariables false
theorem right_cons0 {x : Int} {r : List Int} {last : Int} (h : rightFrom last (x :: r) = true) : last < x ∧ x < 1000 ∧ rightFrom x r = true := by
  rw [rightFrom] at h
  split at h
  · cases h
  split at h
  · cases h
  exact ⟨by omega, by omega, h⟩
/-- The posting ahead of a place. -/
def prev (l : List Int) : Nat → Int
  | 0 => -1
  | i + 1 => l.getD i 0
theorem refRight_loop (l : List Int) (hl : l.length ≤ 1000000000) : ∀ d i : Nat, i + d = l.length → -1 ≤ prev l i → Evl (fun k => rubrickref09_Right.l0 k l (i : Int)) (rightFrom (prev l i) (l.drop i))
  | 0, i, h, hp => by
    refine Evl.step (fun _ => rubrickref09_Right.l0.eq_2 ..) (Evl.neg (by omega) (Evl.ret' ?_))
    rw [List.drop_eq_nil_of_le (by omega)]; rfl
  | d + 1, i, h, hp => by
    have hi : i < l.length := by omega
    refine Evl.step (fun _ => rubrickref09_Right.l0.eq_2 ..) (Evl.pos (by omega) (Evl.pos (by omega) ?_))
    rw [rdi l i hi, w1 i (by omega), List.drop_eq_getElem_cons hi, rightFrom]
    have hn : prev l (i + 1) = l[i] := by
      show l.getD i 0 = _
      rw [List.getD_eq_getElem?_getD, List.getElem?_eq_getElem hi]; rfl
    by_cases h1 : l[i] < 0
    · rw [if_pos (by omega)]; exact Evl.pos h1 (Evl.ret _)
    refine Evl.neg h1 ?_
    by_cases h2 : l[i] > 999
    · refine Evl.pos h2 (Evl.ret' ?_)
      split
      · rfl
      · rw [if_pos (by omega)]
    refine Evl.neg h2 ?_
    have ih := refRight_loop l hl d (i + 1) (by omega) (by rw [hn]; omega)
    rw [hn] at ih
    cases i with
    | zero =>
      refine Evl.neg (by omega) ?_
      rw [if_neg (by show ¬ _ ≤ (-1 : Int); omega), if_neg (by omega)]
      exact ih
    | succ j =>
      have hj : j < l.length := by omega
      have e : wrap64 (((j + 1 : Nat) : Int) - 1) = (j : Int) := by unfold wrap64; omega
      have hm : prev l (j + 1) = l[j] := by
        show l.getD j 0 = _
        rw [List.getD_eq_getElem?_getD, List.getElem?_eq_getElem hj]; rfl
      rw [e, rdi l j hj, hm]
      refine Evl.pos (by omega) (Evl.pos (by omega) (Evl.pos (by omega) ?_))
      by_cases h3 : l[j + 1] ≤ l[j]
      · rw [if_pos h3]; exact Evl.pos h3 (Evl.ret _)
      · rw [if_neg h3, if_neg (by omega)]; exact Evl.neg h3 ih
theorem refRightE (l : List Int) (hl : l.length ≤ 1000000000) : Evl (fun k => rubrickref09_Right.f k l) (rightFrom (-1) l) := by
  have := refRight_loop l hl l.length 0 (by omega) (by show (-1 : Int) ≤ -1; omega)
  rw [List.drop_zero] at this
  exact this
end Go.Proofs.YtgcfhgkhokljcaaDoor.PurePost

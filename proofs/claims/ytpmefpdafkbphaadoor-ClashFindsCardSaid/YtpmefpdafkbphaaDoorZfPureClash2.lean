import Derived.Test.YtpmefpdafkbphaaDoorZfPureClash
namespace Go.Proofs.YtpmefpdafkbphaaDoor.PureClash
open Go.RowKit HSha PS PR PT PB PC PQ HNode HBytes8 PureS PureO PureSealU PureTree Thy Evl Go.Proofs.YtpmefpdafkbphaaDoorW.PrintWords Go.Proofs.YtpmefpdafkbphaaDoorW.PrintLast Go.Proofs.YtpmefpdafkbphaaDoorW.PrintMore
set_option linter.unusedVariables false
theorem head_len {a : List Bs} (h : lok a) : (0 :: a.headD [] : Bs).length ≤ 301 := by
  match a with
  | [] => simp
  | x :: _ => have := (h x (by simp)).1; simp only [List.headD_cons, List.length_cons]; omega
theorem btw_no {a b : Bs} (ra : ∀ x ∈ a, 0 ≤ x ∧ x < 256) (rb : ∀ x ∈ b, 0 ≤ x ∧ x < 256) (h : (btw a b).2.2 = false) (hs : shaSum a = shaSum b) : a = b := by
  by_cases e : a = b
  · exact e
  · have := isB_ne ra rb e
    rw [hs, beq_self_eq_true] at this; unfold btw at h; rw [if_pos this] at h; cases h
theorem topD_range (l : List ByteArray) : ∀ x ∈ topD l, 0 ≤ x ∧ x < 256 := nb_range _ _
end Go.Proofs.YtpmefpdafkbphaaDoor.PureClash

import Derived.Test.YtgcfhgkhokljcaaZcPA
import Derived.Test.YtgcfhgkhokljcaaZcEvl
import Derived.Laws.Bits128
namespace Go.Proofs.Ytgcfhgkhokljcaa.PurePost
open Go.RowKit Go.Proofs.Ytgcfhgkhokljcaa.PA Go.Proofs.Ytgcfhgkhokljcaa.Evl Go.Proofs.YtgcfhgkhokljcaaW.PrintWords Go.Proofs.YtgcfhgkhokljcaaW.PrintLast Go.Proofs.YtgcfhgkhokljcaaW.PrintMore
set_option linter.unusedVariables false
theorem rdi (l : List Int) (i : Nat) (h : i < l.length) : rd l (i : Int) = l[i] := by
  unfold rd
  rw [Int.toNat_natCast, List.getD_eq_getElem?_getD, List.getElem?_eq_getElem h]
  rfl
theorem w1 (i : Nat) (h : i < 2000000000000) : wrap64 ((i : Int) + 1) = ((i + 1 : Nat) : Int) := by unfold wrap64; omega
/-- Are they postings, behind a last one? -/
def rightFrom : Int → List Int → Bool
  | _, [] => true
  | last, x :: r => if x ≤ last then false else if x ≥ 1000 then false else rightFrom x r
theorem right_loop (l : List Int) (hl : l.length ≤ 1000000000) : ∀ d i : Nat, i + d = l.length → ∀ last : Int, Evl (fun k => post_Right.l0 k last l (l.length : Int) (i : Int)) (rightFrom last (l.drop i))
  | 0, i, h, last => by
    refine Evl.step (fun _ => post_Right.l0.eq_2 ..) (Evl.neg (by omega) (Evl.ret' ?_))
    rw [List.drop_eq_nil_of_le (by omega)]; rfl
  | d + 1, i, h, last => by
    have hi : i < l.length := by omega
    rw [List.drop_eq_getElem_cons hi, rightFrom]
    refine Evl.step (fun _ => post_Right.l0.eq_2 ..) (Evl.pos (by omega) (Evl.pos (by omega) (Evl.pos (by omega) ?_)))
    rw [rdi l i hi, w1 i (by omega)]
    by_cases h1 : l[i] ≤ last
    · rw [if_pos h1]; exact Evl.pos h1 (Evl.ret _)
    rw [if_neg h1]
    refine Evl.neg h1 ?_
    by_cases h2 : l[i] ≥ 1000
    · rw [if_pos h2]; exact Evl.pos h2 (Evl.ret _)
    rw [if_neg h2]
    exact Evl.neg h2 (right_loop l hl d (i + 1) (by omega) _)
theorem rightE (l : List Int) (hl : l.length ≤ 1000000000) : Evl (fun k => post_Right.f k l) (rightFrom (-1) l) := by
  have := right_loop l hl l.length 0 (by omega) (-1)
  rw [List.drop_zero] at this
  exact this
end Go.Proofs.Ytgcfhgkhokljcaa.PurePost

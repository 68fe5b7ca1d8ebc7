import Derived.Test.YtpmefpdafkbphaaDoorZtPureTree
namespace Go.Proofs.YtpmefpdafkbphaaDoor.PureTree
open Go.RowKit HSha PS PB PureS PureO Thy Evl Go.Proofs.YtpmefpdafkbphaaDoorW.PrintWords Go.Proofs.YtpmefpdafkbphaaDoorW.PrintLast
set_option linter.unusedVariables false
def splitN (n : Int) : Int := if n < 2 ∨ n > 1099511627776 then 0 else (sp n.toNat : Int)
theorem split_loop (n : Nat) (h2 : 2 ≤ n) (hn : n ≤ 1099511627776) : ∀ d h : Nat, Nat.log2 (n - 1) - h = d → h ≤ Nat.log2 (n - 1) → Evl (fun k => tree_Split.l0 k (n : Int) ((2 ^ h : Nat) : Int)) (sp n : Int) := by
  (have k1 : 2 ^ Nat.log2 (n - 1) ≤ n - 1 := Nat.log2_self_le (by omega)); have k2 : n - 1 < 2 ^ (Nat.log2 (n - 1) + 1) := Nat.lt_log2_self; intro d
  induction d with
  | zero =>
    intro h hd hh; (obtain rfl : h = Nat.log2 (n - 1) := by omega); rw [Nat.pow_succ] at k2; (have e : wrap64 (((2 ^ Nat.log2 (n - 1) : Nat) : Int) * 2) = ((2 ^ Nat.log2 (n - 1) * 2 : Nat) : Int) := by unfold wrap64; omega); (refine Evl.step (fun _ => tree_Split.l0.eq_2 ..) ?_); rw [e]
    exact Evl.neg (by omega) (Evl.ret' rfl)
  | succ d ih =>
    intro h hd hh; (have k3 : 2 ^ (h + 1) ≤ 2 ^ Nat.log2 (n - 1) := Nat.pow_le_pow_right (by decide) (by omega)); have e0 : 2 ^ (h + 1) = 2 ^ h * 2 := Nat.pow_succ ..; (have e : wrap64 (((2 ^ h : Nat) : Int) * 2) = ((2 ^ (h + 1) : Nat) : Int) := by rw [e0]; unfold wrap64; omega); (refine Evl.step (fun _ => tree_Split.l0.eq_2 ..) ?_); rw [e]; (exact Evl.pos (by omega) (ih (h + 1) (by omega) (by omega)))
theorem splitE (n : Int) : Evl (fun k => tree_Split.f k n) (splitN n) := by
  unfold tree_Split.f splitN
  by_cases h1 : n < 2
  · rw [if_pos (.inl h1)]
    exact Evl.pos h1 (Evl.step (fun _ => tree_Split.j0.eq_2 ..) (Evl.pos rfl (Evl.ret _)))
  refine Evl.neg h1 (Evl.step (fun _ => tree_Split.j0.eq_2 ..) ?_)
  by_cases h2 : n > 1099511627776
  · rw [if_pos (.inr h2)]
    exact Evl.pos (decide_eq_true h2) (Evl.ret _)
  · rw [if_neg (by omega)]
    (refine Evl.neg (by simpa using h2) ?_); (obtain ⟨m, rfl⟩ := Int.eq_ofNat_of_zero_le (show 0 ≤ n by omega)); rw [Int.toNat_natCast]; (exact split_loop m (by omega) (by omega) _ 0 rfl (Nat.zero_le _))
theorem splitN_nat {n : Nat} (h : 2 ≤ n) (h2 : n ≤ 1099511627776) : splitN (n : Int) = (sp n : Int) := by
  unfold splitN; rw [if_neg (by omega), Int.toNat_natCast]
end Go.Proofs.YtpmefpdafkbphaaDoor.PureTree

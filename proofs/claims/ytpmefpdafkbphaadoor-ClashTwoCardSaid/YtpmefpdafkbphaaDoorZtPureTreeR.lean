import Derived.Test.YtpmefpdafkbphaaDoorZtPC
import Derived.Test.YtpmefpdafkbphaaDoorZtPureTree2
namespace Go.Proofs.YtpmefpdafkbphaaDoor.PureTree
open Go.RowKit HSha PS PB PC HNode PureS PureO Thy Evl Go.Proofs.YtpmefpdafkbphaaDoorW.PrintWords Go.Proofs.YtpmefpdafkbphaaDoorW.PrintLast
set_option linter.unusedVariables false
theorem rsplit_loop (n : Nat) (h2 : 2 ≤ n) (hn : n ≤ 1099511627776) : ∀ d h : Nat, Nat.log2 (n - 1) - h = d → h ≤ Nat.log2 (n - 1) → Evl (fun k => rubrickref06_Split.l0 k (n : Int) ((2 ^ h : Nat) : Int)) (sp n : Int) := by
  (have k1 : 2 ^ Nat.log2 (n - 1) ≤ n - 1 := Nat.log2_self_le (by omega)); have k2 : n - 1 < 2 ^ (Nat.log2 (n - 1) + 1) := Nat.lt_log2_self; intro d
  induction d with
  | zero =>
    intro h hd hh; (obtain rfl : h = Nat.log2 (n - 1) := by omega); rw [Nat.pow_succ] at k2; (have e : wrap64 (2 * ((2 ^ Nat.log2 (n - 1) : Nat) : Int)) = ((2 ^ Nat.log2 (n - 1) * 2 : Nat) : Int) := by unfold wrap64; omega); (refine Evl.step (fun _ => rubrickref06_Split.l0.eq_2 ..) ?_); rw [e]
    exact Evl.neg (by omega) (Evl.ret' rfl)
  | succ d ih =>
    intro h hd hh; (have k3 : 2 ^ (h + 1) ≤ 2 ^ Nat.log2 (n - 1) := Nat.pow_le_pow_right (by decide) (by omega)); have e0 : 2 ^ (h + 1) = 2 ^ h * 2 := Nat.pow_succ ..; (have e : wrap64 (2 * ((2 ^ h : Nat) : Int)) = ((2 ^ (h + 1) : Nat) : Int) := by rw [e0]; unfold wrap64; omega); (refine Evl.step (fun _ => rubrickref06_Split.l0.eq_2 ..) ?_); rw [e]; (exact Evl.pos (by omega) (ih (h + 1) (by omega) (by omega)))
theorem rsplitE (n : Int) : Evl (fun k => rubrickref06_Split.f k n) (splitN n) := by
  unfold rubrickref06_Split.f splitN
  by_cases h1 : n < 2
  · rw [if_pos (.inl h1)]
    exact Evl.pos h1 (Evl.step (fun _ => rubrickref06_Split.j0.eq_2 ..) (Evl.pos rfl (Evl.ret _)))
  refine Evl.neg h1 (Evl.step (fun _ => rubrickref06_Split.j0.eq_2 ..) ?_)
  by_cases h2 : n > 1099511627776
  · rw [if_pos (.inr h2)]
    exact Evl.pos (decide_eq_true h2) (Evl.ret _)
  · rw [if_neg (by omega)]
    (refine Evl.neg (by simpa using h2) ?_); (obtain ⟨m, rfl⟩ := Int.eq_ofNat_of_zero_le (show 0 ≤ n by omega)); rw [Int.toNat_natCast]; (exact rsplit_loop m (by omega) (by omega) _ 0 rfl (Nat.zero_le _))
theorem rrootE : ∀ (n : Nat) (l : List ByteArray), l.length = n → n ≤ 1000000000 → okD l = true → Evl (fun k => rubrickref06_Root.f k l) (rootD l) := by
  intro n
  induction n using Nat.strongRecOn with
  | _ n ih =>
    intro l hl hn ok; (refine Evl.step (fun _ => rubrickref06_Root.f.eq_2 ..) ?_)
    by_cases h0 : (l.length : Int) = 0
    · refine Evl.pos h0 (Evl.bind (rsumE [] (by simp) (by simp)) (Evl.ret' ?_))
      (have : l = [] := List.length_eq_zero_iff.mp (by omega)); subst this; unfold rootD; rw [root_nil]; rfl
    refine Evl.neg h0 ?_
    by_cases h1 : (l.length : Int) = 1
    · refine Evl.pos h1 (Evl.pos (by omega) (Evl.ret' ?_))
      match l, h1 with
      | [x], _ =>
        unfold rootD; rw [root_one]
        rfl
      | [], h1 => simp at h1
      | _ :: _ :: _, h1 => simp at h1; omega
    (have k1 := sp_lt (n := n) (by omega)); have k2 := sp_pos n; (refine Evl.neg h1 (Evl.bind ((rsplitE _).cast (splitN_nat (by omega) (by omega))) ?_)); rw [hl]; (refine Evl.pos (by omega) (Evl.pos (by omega) ?_)); rw [Int.toNat_natCast]; have ok1 := okD_take ok (sp n); have ok2 := okD_drop ok (sp n); have s1 := rootD_size _ _ rfl ok1; have s2 := rootD_size _ _ rfl ok2; (refine Evl.bind (ih (sp n) k1 (l.take (sp n)) (by simp; omega) (by omega) ok1) (Evl.bind (ih (n - sp n) (by omega) (l.drop (sp n)) (by simp; omega) (by omega) ok2) (Evl.bind (rnodeE _ _ (by omega) (by omega)) (Evl.ret' ?_)))); unfold rootD; (rw [root_two nodeD emptyD (l := l) (by omega), hl])
end Go.Proofs.YtpmefpdafkbphaaDoor.PureTree

import Derived.Test.YtpmefpdafkbphaaDoorZfPureTree
namespace Go.Proofs.YtpmefpdafkbphaaDoor.PureTree
open Go.RowKit HSha PS PB PureS PureO Thy Evl Go.Proofs.YtpmefpdafkbphaaDoorW.PrintWords Go.Proofs.YtpmefpdafkbphaaDoorW.PrintLast
set_option linter.unusedVariables false
def splitN (n : Int) : Int := if n < 2 ∨ n > 1099511627776 then 0 else (sp n.toNat : Int)
theorem split_loop (n : Nat) (h2 : 2 ≤ n) (hn : n ≤ 1099511627776) : ∀ d h : Nat, Nat.log2 (n - 1) - h = d → h ≤ Nat.log2 (n - 1) → Evl (fun k => tree_Split.l0 k (n : Int) ((2 ^ h : Nat) : Int)) (sp n : Int) := by
  (have k1 : 2 ^ Nat.log2 (n - 1) ≤ n - 1 := Nat.log2_self_le (by omega)); have k2 : n - 1 < 2 ^ (Nat.log2 (n - 1) + 1) := Nat.lt_log2_self; intro d
  induction d with
  | zero =>
    intro h hd hh; (obtain rfl : h = Nat.log2 (n - 1) := by omega); rw [Nat.pow_succ] at k2; (have e : wrap64 (((2 ^ Nat.log2 (n - 1) : Nat) : Int) * 2) = ((2 ^ Nat.log2 (n - 1) * 2 : Nat) : Int) := by unfold wrap64; omega); (refine Evl.step (fun _ => tree_Split.l0.eq_2 ..) ?_); rw [e]
    exact Evl.neg (by omega) (Evl.ret' rfl)
  | succ d ih =>
    intro h hd hh; (have k3 : 2 ^ (h + 1) ≤ 2 ^ Nat.log2 (n - 1) := Nat.pow_le_pow_right (by decide) (by omega)); have e0 : 2 ^ (h + 1) = 2 ^ h * 2 := Nat.pow_succ ..; (have e : wrap64 (((2 ^ h : Nat) : Int) * 2) = ((2 ^ (h + 1) : Nat) : Int) := by rw [e0]; unfold wrap64; omega); (refine Evl.step (fun _ => tree_Split.l0.eq_2 ..) ?_); rw [e]; (exact Evl.pos (by omega) (ih (h + 1) (by omega) (by omega)))
theorem splitE (n : Int) : Evl (fun k => tree_Split.f k n) (splitN n) := by
  unfold tree_Split.f splitN
  by_cases h1 : n < 2
  · rw [if_pos (.inl h1)]
    exact Evl.pos h1 (Evl.step (fun _ => tree_Split.j0.eq_2 ..) (Evl.pos rfl (Evl.ret _)))
  refine Evl.neg h1 (Evl.step (fun _ => tree_Split.j0.eq_2 ..) ?_)
  by_cases h2 : n > 1099511627776
  · rw [if_pos (.inr h2)]
    exact Evl.pos (decide_eq_true h2) (Evl.ret _)
  · rw [if_neg (by omega)]
    (refine Evl.neg (by simpa using h2) ?_); (obtain ⟨m, rfl⟩ := Int.eq_ofNat_of_zero_le (show 0 ≤ n by omega)); rw [Int.toNat_natCast]; (exact split_loop m (by omega) (by omega) _ 0 rfl (Nat.zero_le _))
theorem splitN_nat {n : Nat} (h : 2 ≤ n) (h2 : n ≤ 1099511627776) : splitN (n : Int) = (sp n : Int) := by
  unfold splitN; rw [if_neg (by omega), Int.toNat_natCast]
theorem turn_loop (x6 : List ByteArray) (hl : x6.length ≤ 1000000000) : ∀ d j : Nat, j + d = x6.length → Evl (fun k => tree_Path.l1 k x6 (List.replicate d (⟨#[]⟩ : ByteArray) ++ (x6.take j).reverse) (x6.length : Int) (j : Int)) (x6.reverse, 0)
  | 0, j, h => by
    (refine Evl.step (fun _ => tree_Path.l1.eq_2 ..) (Evl.neg (by omega) (Evl.ret' ?_))); (rw [show j = x6.length by omega, List.take_length])
    rfl
  | d + 1, j, h => by
    have hj : j < x6.length := by omega
    have e : wrap64 (wrap64 ((x6.length : Int) - 1) - (j : Int)) = ((d : Nat) : Int) := by
      rw [wN (n := (x6.length : Int) - 1) (by omega) (by omega), wN (by omega) (by omega)]; omega
    (refine Evl.step (fun _ => tree_Path.l1.eq_2 ..) ?_); (rw [e, rd_at _ x6 j hj, w1 j (by omega), Int.toNat_natCast]); (have hlen : (List.replicate (d + 1) (⟨#[]⟩ : ByteArray) ++ (x6.take j).reverse).length = x6.length := by simp; omega); (refine Evl.pos (by omega) (Evl.pos (by omega) (Evl.pos (by omega) (Evl.pos (by omega) (Evl.pos (by omega) ?_)))))
    have e2 : (List.replicate (d + 1) (⟨#[]⟩ : ByteArray) ++ (x6.take j).reverse).set d x6[j] = List.replicate d (⟨#[]⟩ : ByteArray) ++ (x6.take (j + 1)).reverse := by
      (rw [List.replicate_succ', List.append_assoc, List.set_append_right _ _ (by simp)]); rw [List.length_replicate, Nat.sub_self, List.take_succ_eq_append_getElem hj, List.reverse_append]; rfl
    rw [e2]; (exact turn_loop x6 hl d (j + 1) (by omega))
theorem path_loop : ∀ (n : Nat) (l : List ByteArray) (i : Nat) (acc : List ByteArray), l.length = n → i < n → n + acc.length ≤ 1000000000 → okD l = true → Evl (fun k => tree_Path.l0 k l (i : Int) acc) (path nodeD emptyD l i ++ acc.reverse, 0) := by
  intro n
  induction n using Nat.strongRecOn with
  | _ n ih =>
    intro l i acc hl hi hb ok; (refine Evl.step (fun _ => tree_Path.l0.eq_2 ..) ?_)
    by_cases h : (l.length : Int) > 1
    · have h1 := sp_lt (n := n) (by omega)
      have h2 := sp_pos n; (refine Evl.pos h (Evl.bind ((splitE _).cast (splitN_nat (by omega) (by omega))) ?_)); rw [hl]
      by_cases hk : (i : Int) < (sp n : Int)
      · refine Evl.pos hk (Evl.pos (by omega) (Evl.pos (by omega) ?_))
        rw [Int.toNat_natCast]; (refine Evl.bind (troot1E (l.drop (sp n)) (by simp; omega) (okD_drop ok _)) (Evl.pos (by omega) ?_)); (have := ih (sp n) h1 (l.take (sp n)) i (acc ++ [rootD (l.drop (sp n))]) (by simp; omega) (by omega) (by simp; omega) (okD_take ok _)); refine this.cast ?_; (rw [path_left nodeD emptyD (l := l) (by omega) (by rw [hl]; omega), hl]); simp [rootD]
      · refine Evl.neg hk (Evl.pos (by omega) (Evl.pos (by omega) ?_))
        rw [Int.toNat_natCast]; (refine Evl.bind (troot1E (l.take (sp n)) (by simp; omega) (okD_take ok _)) (Evl.pos (by omega) ?_)); (have e : wrap64 ((i : Int) - (sp n : Int)) = ((i - sp n : Nat) : Int) := by rw [wN (by omega) (by omega)]; omega); rw [e]; (have := ih (n - sp n) (by omega) (l.drop (sp n)) (i - sp n) (acc ++ [rootD (l.take (sp n))]) (by simp; omega) (by omega) (by simp; omega) (okD_drop ok _)); refine this.cast ?_; (rw [path_right nodeD emptyD (l := l) (by omega) (by rw [hl]; omega), hl]); simp [rootD]
    · refine Evl.neg h (Evl.pos (by omega) (Evl.pos (by omega) ?_))
      (rw [Int.toNat_natCast, path_small nodeD emptyD (by omega), List.nil_append]); (have := turn_loop acc (by omega) acc.length 0 (by omega)); rw [List.take_zero, List.reverse_nil, List.append_nil] at this; exact this
theorem tpathE (l : List ByteArray) (hl : l.length ≤ 1000000000) (i : Int) : Evl (fun k => tree_Path.f k l i) (if okD l = true ∧ 0 ≤ i ∧ i < l.length then (path nodeD emptyD l i.toNat, 0) else ([], 1)) := by
  unfold tree_Path.f; (refine Evl.bind (allE l (by omega)) ?_); cases ok : okD l
  · rw [if_neg (by simp)]
    exact Evl.neg (by simp) (Evl.step (fun _ => tree_Path.j0.eq_2 ..) (Evl.pos rfl (Evl.ret _)))
  refine Evl.pos rfl ?_
  by_cases h1 : i < 0
  · rw [if_neg (by omega)]
    exact Evl.pos h1 (Evl.step (fun _ => tree_Path.j0.eq_2 ..) (Evl.pos rfl (Evl.ret _)))
  refine Evl.neg h1 (Evl.step (fun _ => tree_Path.j0.eq_2 ..) ?_)
  by_cases h2 : i ≥ (l.length : Int)
  · rw [if_neg (by omega)]
    exact Evl.pos (decide_eq_true h2) (Evl.ret _)
  · rw [if_pos ⟨rfl, by omega, by omega⟩]
    (refine Evl.neg (by simpa using h2) ?_); (obtain ⟨m, rfl⟩ := Int.eq_ofNat_of_zero_le (show 0 ≤ i by omega)); (have := path_loop l.length l m [] rfl (by omega) (by simp; omega) ok); rw [List.reverse_nil, List.append_nil] at this; rw [Int.toNat_natCast]; exact this
end Go.Proofs.YtpmefpdafkbphaaDoor.PureTree

import Derived.Test.YtpmefpdafkbphaaDoorZlPC
import Derived.Test.YtpmefpdafkbphaaDoorZlPureTree3
namespace Go.Proofs.YtpmefpdafkbphaaDoor.PureTree
open Go.RowKit HSha PS PB PC HNode PureS PureO Thy Evl Go.Proofs.YtpmefpdafkbphaaDoorW.PrintWords Go.Proofs.YtpmefpdafkbphaaDoorW.PrintLast
set_option linter.unusedVariables false
theorem rsplit_loop (n : Nat) (h2 : 2 ≤ n) (hn : n ≤ 1099511627776) : ∀ d h : Nat, Nat.log2 (n - 1) - h = d → h ≤ Nat.log2 (n - 1) → Evl (fun k => rubrickref06_Split.l0 k (n : Int) ((2 ^ h : Nat) : Int)) (sp n : Int) := by
  (have k1 : 2 ^ Nat.log2 (n - 1) ≤ n - 1 := Nat.log2_self_le (by omega)); have k2 : n - 1 < 2 ^ (Nat.log2 (n - 1) + 1) := Nat.lt_log2_self; intro d
  induction d with
  | zero =>
    intro h hd hh; (obtain rfl : h = Nat.log2 (n - 1) := by omega); rw [Nat.pow_succ] at k2; (have e : wrap64 (2 * ((2 ^ Nat.log2 (n - 1) : Nat) : Int)) = ((2 ^ Nat.log2 (n - 1) * 2 : Nat) : Int) := by unfold wrap64; omega); (refine Evl.step (fun _ => rubrickref06_Split.l0.eq_2 ..) ?_); rw [e]
    exact Evl.neg (by omega) (Evl.ret' rfl)
  | succ d ih =>
    intro h hd hh; (have k3 : 2 ^ (h + 1) ≤ 2 ^ Nat.log2 (n - 1) := Nat.pow_le_pow_right (by decide) (by omega)); have e0 : 2 ^ (h + 1) = 2 ^ h * 2 := Nat.pow_succ ..; (have e : wrap64 (2 * ((2 ^ h : Nat) : Int)) = ((2 ^ (h + 1) : Nat) : Int) := by rw [e0]; unfold wrap64; omega); (refine Evl.step (fun _ => rubrickref06_Split.l0.eq_2 ..) ?_); rw [e]; (exact Evl.pos (by omega) (ih (h + 1) (by omega) (by omega)))
theorem rsplitE (n : Int) : Evl (fun k => rubrickref06_Split.f k n) (splitN n) := by
  unfold rubrickref06_Split.f splitN
  by_cases h1 : n < 2
  · rw [if_pos (.inl h1)]
    exact Evl.pos h1 (Evl.step (fun _ => rubrickref06_Split.j0.eq_2 ..) (Evl.pos rfl (Evl.ret _)))
  refine Evl.neg h1 (Evl.step (fun _ => rubrickref06_Split.j0.eq_2 ..) ?_)
  by_cases h2 : n > 1099511627776
  · rw [if_pos (.inr h2)]
    exact Evl.pos (decide_eq_true h2) (Evl.ret _)
  · rw [if_neg (by omega)]
    (refine Evl.neg (by simpa using h2) ?_); (obtain ⟨m, rfl⟩ := Int.eq_ofNat_of_zero_le (show 0 ≤ n by omega)); rw [Int.toNat_natCast]; (exact rsplit_loop m (by omega) (by omega) _ 0 rfl (Nat.zero_le _))
theorem rright_loop (l : List ByteArray) (hl : l.length ≤ 1000000000000) : ∀ d i : Nat, i + d = l.length → Evl (fun k => rubrickref06_Right.l0 k l (i : Int)) (okD (l.drop i))
  | 0, i, h => by
    refine Evl.step (fun _ => rubrickref06_Right.l0.eq_2 ..) (Evl.neg (by omega) (Evl.ret' ?_))
    rw [List.drop_eq_nil_of_le (by omega)]; rfl
  | d + 1, i, h => by
    (have hi : i < l.length := by omega); rw [List.drop_eq_getElem_cons hi]; (refine Evl.step (fun _ => rubrickref06_Right.l0.eq_2 ..) (Evl.pos (by omega) (Evl.pos (by omega) ?_))); rw [rd_at _ l i hi]
    by_cases hs : (l[i].size : Int) = 32
    · refine Evl.pos hs ?_
      (rw [w1 i (by omega)]); (refine (rright_loop l hl d (i + 1) (by omega)).cast ?_); (have : l[i].size = 32 := by omega); simp only [okD, List.all_cons, this, beq_self_eq_true, Bool.true_and]
    · refine Evl.neg hs (Evl.ret' ?_)
      (have : ¬ l[i].size = 32 := by omega); simp only [okD, List.all_cons, beq_eq_false_iff_ne.mpr this, Bool.false_and]
theorem rrightE (l : List ByteArray) (hl : l.length ≤ 1000000000000) : Evl (fun k => rubrickref06_Right.f k l) (okD l) := by
  (have := rright_loop l hl l.length 0 (by omega)); rw [List.drop_zero] at this; exact this
theorem rrootE : ∀ (n : Nat) (l : List ByteArray), l.length = n → n ≤ 1000000000 → okD l = true → Evl (fun k => rubrickref06_Root.f k l) (rootD l) := by
  intro n
  induction n using Nat.strongRecOn with
  | _ n ih =>
    intro l hl hn ok; (refine Evl.step (fun _ => rubrickref06_Root.f.eq_2 ..) ?_)
    by_cases h0 : (l.length : Int) = 0
    · refine Evl.pos h0 (Evl.bind (rsumE [] (by simp) (by simp)) (Evl.ret' ?_))
      (have : l = [] := List.length_eq_zero_iff.mp (by omega)); subst this; unfold rootD; rw [root_nil]; rfl
    refine Evl.neg h0 ?_
    by_cases h1 : (l.length : Int) = 1
    · refine Evl.pos h1 (Evl.pos (by omega) (Evl.ret' ?_))
      match l, h1 with
      | [x], _ =>
        unfold rootD; rw [root_one]
        rfl
      | [], h1 => simp at h1
      | _ :: _ :: _, h1 => simp at h1; omega
    (have k1 := sp_lt (n := n) (by omega)); have k2 := sp_pos n; (refine Evl.neg h1 (Evl.bind ((rsplitE _).cast (splitN_nat (by omega) (by omega))) ?_)); rw [hl]; (refine Evl.pos (by omega) (Evl.pos (by omega) ?_)); rw [Int.toNat_natCast]; have ok1 := okD_take ok (sp n); have ok2 := okD_drop ok (sp n); have s1 := rootD_size _ _ rfl ok1; have s2 := rootD_size _ _ rfl ok2; (refine Evl.bind (ih (sp n) k1 (l.take (sp n)) (by simp; omega) (by omega) ok1) (Evl.bind (ih (n - sp n) (by omega) (l.drop (sp n)) (by simp; omega) (by omega) ok2) (Evl.bind (rnodeE _ _ (by omega) (by omega)) (Evl.ret' ?_)))); unfold rootD; (rw [root_two nodeD emptyD (l := l) (by omega), hl])
theorem rstepsE : ∀ (n i : Nat), i < n → n ≤ 1099511627776 → Evl (fun k => rubrickref06_Steps.f k (i : Int) (n : Int)) (steps i n : Int) := by
  intro n
  induction n using Nat.strongRecOn with
  | _ n ih =>
    intro i hi hn; (refine Evl.step (fun _ => rubrickref06_Steps.f.eq_2 ..) ?_)
    by_cases h : (n : Int) < 2
    · refine Evl.pos h (Evl.ret' ?_)
      rw [steps_small (by omega)]; rfl
    (have k1 := sp_lt (n := n) (by omega)); have k2 := sp_pos n; (refine Evl.neg h (Evl.bind ((rsplitE _).cast (splitN_nat (by omega) (by omega))) ?_))
    by_cases hk : (i : Int) < (sp n : Int)
    · have hs := steps_le 40 (sp n) i (by omega) (by omega)
      (refine Evl.pos hk (Evl.bind (ih (sp n) k1 i (by omega) (by omega)) (Evl.ret' ?_))); (rw [steps_left (i := i) (n := n) (by omega) (by omega), wN (by omega) (by omega)]; omega)
    · have hs := steps_le 40 (n - sp n) (i - sp n) (by omega) (by omega)
      refine Evl.neg hk ?_; (rw [wN (n := (i : Int) - (sp n : Int)) (by omega) (by omega), wN (n := (n : Int) - (sp n : Int)) (by omega) (by omega), show (i : Int) - (sp n : Int) = ((i - sp n : Nat) : Int) by omega, show (n : Int) - (sp n : Int) = ((n - sp n : Nat) : Int) by omega]); (refine Evl.bind (ih (n - sp n) (by omega) (i - sp n) (by omega) (by omega)) (Evl.ret' ?_)); (rw [steps_right (i := i) (n := n) (by omega) (by omega), wN (by omega) (by omega)]; omega)
theorem climb_size : ∀ (n i : Nat) (x : ByteArray) (p : List ByteArray), x.size = 32 → (climb nodeD emptyD x i n p).size = 32 := by
  intro n i x p hx; rw [climb]; split
  · exact hx
  · split <;> exact nodeD_size _ _
theorem rclimbE : ∀ (n i : Nat) (x : ByteArray) (p : List ByteArray), i < n → n ≤ 1099511627776 → p.length = steps i n → okD p = true → x.size = 32 → Evl (fun k => rubrickref06_Climb.f k x (i : Int) (n : Int) p) (climb nodeD emptyD x i n p) := by
  intro n
  induction n using Nat.strongRecOn with
  | _ n ih =>
    intro i x p hi hn hp ok hx; (refine Evl.step (fun _ => rubrickref06_Climb.f.eq_2 ..) ?_)
    by_cases h : (n : Int) < 2
    · refine Evl.pos h (Evl.ret' ?_)
      rw [climb_small nodeD emptyD (by omega)]
    (have k1 := sp_lt (n := n) (by omega)); have k2 := sp_pos n; (have k3 := steps_le 40 n i (by omega) hi); (refine Evl.neg h (Evl.bind ((rsplitE _).cast (splitN_nat (by omega) (by omega))) ?_))
    have hpos : 0 < p.length := by
      by_cases hk : i < sp n
      · rw [hp, steps_left (by omega) hk]; omega
      · rw [hp, steps_right (by omega) hk]; omega
    obtain ⟨q, d, rfl⟩ : ∃ q d, p = q ++ [d] := ⟨p.dropLast, p.getLast (List.length_pos_iff.mp hpos), (List.dropLast_concat_getLast _).symm⟩; (have hlen : (q ++ [d]).length = q.length + 1 := by simp); (have hd : d.size = 32 := okD_mem ok (by simp)); (have okq : okD q = true := by have := okD_take ok q.length; rwa [List.take_left] at this); (have e1 : wrap64 (((q.length + 1 : Nat) : Int) - 1) = ((q.length : Nat) : Int) := by rw [wN (by omega) (by omega)]; omega); (have g1 : rdOf ByteArray.empty (q ++ [d]) (q.length : Int) = d := by rw [rd_at _ _ _ (by simp)]; simp); rw [hlen, e1, g1, Int.toNat_natCast, List.take_left]
    by_cases hk : (i : Int) < (sp n : Int)
    · have hq : q.length = steps i (sp n) := by rw [steps_left (by omega) (by omega)] at hp; omega
      (refine Evl.pos hk (Evl.pos (by omega) (Evl.pos (by omega) (Evl.bind (ih (sp n) k1 i x q (by omega) (by omega) hq okq hx) (Evl.pos (by omega) (Evl.bind (rnodeE _ _ (by rw [climb_size _ _ _ _ hx]; omega) (by omega)) (Evl.ret' ?_))))))); (rw [climb_left nodeD emptyD (by omega) (by omega)])
    · have hq : q.length = steps (i - sp n) (n - sp n) := by rw [steps_right (by omega) (by omega)] at hp; omega
      refine Evl.neg hk ?_; (rw [wN (n := (i : Int) - (sp n : Int)) (by omega) (by omega), wN (n := (n : Int) - (sp n : Int)) (by omega) (by omega), show (i : Int) - (sp n : Int) = ((i - sp n : Nat) : Int) by omega, show (n : Int) - (sp n : Int) = ((n - sp n : Nat) : Int) by omega]); (refine Evl.pos (by omega) (Evl.pos (by omega) (Evl.pos (by omega) (Evl.bind (ih (n - sp n) (by omega) (i - sp n) x q (by omega) (by omega) hq okq hx) (Evl.bind (rnodeE _ _ (by omega) (by rw [climb_size _ _ _ _ hx]; omega)) (Evl.ret' ?_)))))); (rw [climb_right nodeD emptyD (by omega) (by omega)])
def greatD (l : List ByteArray) : Bool := l.any (fun d => decide (100 < d.size)) || decide (100 < l.length)
theorem great_loop (l : List ByteArray) (hl : l.length ≤ 9223372036854775807) : ∀ d i : Nat, i + d = l.length → Evl (fun k => rubricklaw06_Great.l0 k l (i : Int)) ((l.drop i).any (fun d => decide (100 < d.size)) || decide (100 < l.length))
  | 0, i, h => by
    (refine Evl.step (fun _ => rubricklaw06_Great.l0.eq_2 ..) (Evl.neg (by omega) (Evl.ret' ?_))); (rw [List.drop_eq_nil_of_le (by omega), List.any_nil, Bool.false_or, decide_eq_decide])
    omega
  | d + 1, i, h => by
    (have hi : i < l.length := by omega); (refine Evl.step (fun _ => rubricklaw06_Great.l0.eq_2 ..) (Evl.pos (by omega) (Evl.pos (by omega) ?_))); rw [rd_at _ l i hi, List.drop_eq_getElem_cons hi]
    by_cases hs : (l[i].size : Int) > 100
    · refine Evl.pos hs (Evl.ret' ?_)
      (have : 100 < l[i].size := by omega); simp only [List.any_cons, decide_eq_true this, Bool.true_or]
    · refine Evl.neg hs ?_
      (have e : wrap64 ((i : Int) + 1) = ((i + 1 : Nat) : Int) := by unfold wrap64; omega); rw [e]; (refine (great_loop l hl d (i + 1) (by omega)).cast ?_); (have : ¬ 100 < l[i].size := by omega); simp only [List.any_cons, decide_eq_false this, Bool.false_or]
theorem greatE (l : List ByteArray) (hl : l.length ≤ 9223372036854775807) : Evl (fun k => rubricklaw06_Great.f k l) (greatD l) := by
  (have := great_loop l hl l.length 0 (by omega)); rw [List.drop_zero] at this; exact this
theorem great_len {l : List ByteArray} (h : greatD l = false) : l.length ≤ 100 := by
  unfold greatD at h; simp only [Bool.or_eq_false_iff, decide_eq_false_iff_not] at h; omega
end Go.Proofs.YtpmefpdafkbphaaDoor.PureTree

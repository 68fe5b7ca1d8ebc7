import Derived.Test.YtpmefpdafkbphaaDoorZtPB
import Derived.Test.YtpmefpdafkbphaaDoorZtPureO
import Derived.Test.YtpmefpdafkbphaaDoorZtThy
import Derived.Laws.Bits128
namespace Go.Proofs.YtpmefpdafkbphaaDoor.PureTree
open Go.RowKit HSha PS PB PureS PureO Thy Evl Go.Proofs.YtpmefpdafkbphaaDoorW.PrintWords Go.Proofs.YtpmefpdafkbphaaDoorW.PrintLast
set_option linter.unusedVariables false
theorem i64_and1 (n : Int) : Go.bits .and .i64 n 1 = n % 2 := by
  have h1 : (BitVec.ofInt 64 1).toNat = 2 ^ 1 - 1 := by decide
  have key : (BitVec.ofInt 64 n &&& BitVec.ofInt 64 1).toNat = (n % ((2 ^ 64 : Nat) : Int)).toNat % 2 ^ 1 := by
    rw [BitVec.toNat_and, BitVec.toNat_ofInt, h1, Nat.and_two_pow_sub_one_eq_mod]
  (show IntKind.i64.wrap ((BitVec.ofInt 64 n &&& BitVec.ofInt 64 1).toNat : Nat) = n % 2); rw [key, IntKind.wrap_i64]; omega
theorem rd_at {α : Type} (d : α) (l : List α) (i : Nat) (h : i < l.length) : rdOf d l (i : Int) = l[i] := by
  unfold rdOf; rw [Int.toNat_natCast, List.getD_eq_getElem?_getD, List.getElem?_eq_getElem h]; rfl
theorem w1 (i : Nat) (h : i < 2000000000000) : wrap64 ((i : Int) + 1) = ((i + 1 : Nat) : Int) := by unfold wrap64; omega
def okD (l : List ByteArray) : Bool := l.all fun d => d.size == 32
theorem okD_mem {l : List ByteArray} (h : okD l = true) {d : ByteArray} (hd : d ∈ l) : d.size = 32 := by
  unfold okD at h; rw [List.all_eq_true] at h
  simpa using h d hd
theorem okD_take {l : List ByteArray} (h : okD l = true) (n : Nat) : okD (l.take n) = true := by
  unfold okD at *; rw [List.all_eq_true] at *; (exact fun x hx => h x (List.mem_of_mem_take hx))
theorem okD_drop {l : List ByteArray} (h : okD l = true) (n : Nat) : okD (l.drop n) = true := by
  unfold okD at *; rw [List.all_eq_true] at *; (exact fun x hx => h x (List.mem_of_mem_drop hx))
theorem all_loop (l : List ByteArray) (hl : l.length ≤ 1000000000000) : ∀ d i : Nat, i + d = l.length → Evl (fun k => tree_all.l0 k l (l.length : Int) (i : Int)) (okD (l.drop i))
  | 0, i, h => by
    refine Evl.step (fun _ => tree_all.l0.eq_2 ..) (Evl.neg (by omega) (Evl.ret' ?_))
    rw [List.drop_eq_nil_of_le (by omega)]; rfl
  | d + 1, i, h => by
    (have hi : i < l.length := by omega); rw [List.drop_eq_getElem_cons hi]; (refine Evl.step (fun _ => tree_all.l0.eq_2 ..) (Evl.pos (by omega) (Evl.pos (by omega) (Evl.pos (by omega) ?_)))); rw [rd_at _ l i hi]
    by_cases hs : (l[i].size : Int) = 32
    · refine Evl.pos hs ?_
      (rw [w1 i (by omega)]); (refine (all_loop l hl d (i + 1) (by omega)).cast ?_); (have : l[i].size = 32 := by omega); simp only [okD, List.all_cons, this, beq_self_eq_true, Bool.true_and]
    · refine Evl.neg hs (Evl.ret' ?_)
      (have : ¬ l[i].size = 32 := by omega); simp only [okD, List.all_cons, beq_eq_false_iff_ne.mpr this, Bool.false_and]
theorem allE (l : List ByteArray) (hl : l.length ≤ 1000000000000) : Evl (fun k => tree_all.f k l) (okD l) := by
  (have := all_loop l hl l.length 0 (by omega)); rw [List.drop_zero] at this; exact this
def rootD (l : List ByteArray) : ByteArray := root nodeD emptyD l
theorem rootD_size : ∀ (n : Nat) (l : List ByteArray), l.length = n → okD l = true → (rootD l).size = 32
  | n, l, hn, h => by
    unfold rootD
    by_cases h2 : 2 ≤ l.length
    · rw [root_two nodeD emptyD h2]; exact nodeD_size _ _
    · match l, h2 with
      | [], _ => rw [root_nil]; exact emptyD_size
      | [x], _ => rw [root_one]; exact okD_mem h (List.mem_singleton.2 rfl)
      | _ :: _ :: _, h2 => simp at h2
theorem tnodeE (a b : ByteArray) (ha : a.size = 32) (hb : b.size = 32) : Evl (fun k => tree_node.f k a b) (nodeD a b) := by
  unfold tree_node.f; refine Evl.bind (nodeE a b) ?_; rw [if_pos ⟨ha, hb⟩]; exact Evl.ret _
theorem end_loop : ∀ (n : Nat) (s : List ByteArray), s.length = n → 0 < n → n ≤ 1000000000 → okD s = true → Evl (fun k => tree_root.l2 k s) (comb nodeD emptyD s)
  | 0, s, hn, h0, _, _ => by omega
  | 1, s, hn, h0, _, _ => by
    match s, hn with
    | [x], _ =>
      refine Evl.step (fun _ => tree_root.l2.eq_2 ..) (Evl.neg (by simp) (Evl.pos (by simp) (Evl.ret' ?_)))
      rfl
  | n + 2, s, hn, h0, hl, ok => by
    (obtain ⟨S1, b, rfl⟩ : ∃ S1 b, s = S1 ++ [b] := ⟨s.dropLast, s.getLast (by intro h; subst h; simp at hn), (List.dropLast_concat_getLast _).symm⟩); (obtain ⟨S, a, rfl⟩ : ∃ S a, S1 = S ++ [a] := ⟨S1.dropLast, S1.getLast (by intro h; subst h; simp at hn), (List.dropLast_concat_getLast _).symm⟩); (have hS : S.length = n := by simp at hn; omega); have hL : (S ++ [a] ++ [b]).length = n + 2 := hn; (have ha : a.size = 32 := okD_mem ok (by simp)); (have hb : b.size = 32 := okD_mem ok (by simp)); (have e1 : wrap64 (((n + 2 : Nat) : Int) - 1) = ((n + 1 : Nat) : Int) := by unfold wrap64; omega); (have e2 : wrap64 (((n + 1 : Nat) : Int) - 1) = ((n : Nat) : Int) := by unfold wrap64; omega); (have g1 : rdOf ByteArray.empty (S ++ [a] ++ [b]) ((n + 1 : Nat) : Int) = b := by rw [rd_at _ _ _ (by omega)]; simp [← hS]); (have g2 : rdOf ByteArray.empty (S ++ [a] ++ [b]) (n : Int) = a := by rw [rd_at _ _ _ (by omega)]; simp [← hS]); (refine Evl.step (fun _ => tree_root.l2.eq_2 ..) ?_); rw [hL, e1, e2, g1, g2]; (refine Evl.pos (by omega) (Evl.pos (by omega) (Evl.pos (by omega) (Evl.pos (by omega) (Evl.pos (by omega) (Evl.bind (tnodeE a b ha hb) (Evl.pos (by omega) (Evl.some_bind ?_)))))))); (rw [Int.toNat_natCast, show (S ++ [a] ++ [b]).take n = S by simp [← hS]]); (refine Evl.pos (by omega) ?_)
    have := end_loop (n + 1) (S ++ [nodeD a b]) (by simp [hS]) (by omega) (by omega) (by
      unfold okD at *; rw [List.all_append] at *; (simp only [Bool.and_eq_true, List.all_append] at ok ⊢)
      exact ⟨ok.1.1, by simp [nodeD_size]⟩)
    refine this.cast ?_; rw [List.append_assoc]; exact (comb_app nodeD emptyD a b S).symm
theorem stk_len : ∀ (n : Nat) (l : List ByteArray), l.length = n → (stk nodeD emptyD l).length ≤ n := by
  intro n
  induction n using Nat.strongRecOn with
  | _ n ih =>
    intro l hl
    by_cases h : l = []
    · subst h; rw [stk_nil]; simp
    · have h0 : 0 < n := by rw [← hl]; exact List.length_pos_iff.mpr h
      (have hk : 0 < 2 ^ Nat.log2 n := Nat.pow_pos (by decide)); (have := ih (n - 2 ^ Nat.log2 n) (by omega) (l.drop (2 ^ Nat.log2 n)) (by simp; omega)); rw [stk_cons nodeD emptyD h, List.length_cons, hl]; omega
theorem stk_ok : ∀ (n : Nat) (l : List ByteArray), l.length = n → okD l = true → okD (stk nodeD emptyD l) = true := by
  intro n
  induction n using Nat.strongRecOn with
  | _ n ih =>
    intro l hl ok
    by_cases h : l = []
    · subst h; rw [stk_nil]; rfl
    · have h0 : 0 < n := by rw [← hl]; exact List.length_pos_iff.mpr h
      (have hk : 0 < 2 ^ Nat.log2 n := Nat.pow_pos (by decide)); (have := ih (n - 2 ^ Nat.log2 n) (by omega) (l.drop (2 ^ Nat.log2 n)) (by simp; omega) (okD_drop ok _)); rw [stk_cons nodeD emptyD h, hl]; have e := rootD_size _ _ rfl (okD_take ok (2 ^ Nat.log2 n)); unfold rootD at e; unfold okD at *; simp [e, this]
theorem put_loop (l : List ByteArray) (hl : l.length ≤ 1000000000) (ok : okD l = true) (i : Nat) (hi : i < l.length) (R : ByteArray)
    (hnext : Evl (fun k => tree_root.l0 k l (stk nodeD emptyD (l.take (i + 1))) (l.length : Int) ((i + 1 : Nat) : Int)) R) :
    ∀ n t : Nat, 0 < n → i + 1 = n * 2 ^ t → Evl (fun k => tree_root.l1 k l (stk nodeD emptyD (l.take ((n - 1) * 2 ^ t)) ++ [rootD ((l.take (i + 1)).drop ((n - 1) * 2 ^ t))]) (n : Int) (l.length : Int) (i : Int)) R := by
  intro n
  induction n using Nat.strongRecOn with
  | _ n ih =>
    intro t h0 hn; (have hp : 0 < 2 ^ t := Nat.pow_pos (by decide)); (have hle : n ≤ i + 1 := by rw [hn]; exact Nat.le_mul_of_pos_right _ hp); (refine Evl.step (fun _ => tree_root.l1.eq_2 ..) ?_); rw [i64_and1]; (obtain ⟨m, rfl⟩ : ∃ m, n = m + 1 := ⟨n - 1, by omega⟩); rw [Nat.add_sub_cancel]; rw [Nat.succ_mul] at hn; (have hc : ((l.take (i + 1)).drop (m * 2 ^ t)).length = 2 ^ t := by rw [List.length_drop, List.length_take]; omega)
    by_cases hodd : (((m + 1 : Nat) : Int)) % 2 = 0
    · refine Evl.pos hodd ?_
      (obtain ⟨j, rfl⟩ : ∃ j, m = 2 * j + 1 := ⟨m / 2, by omega⟩); (have hmul : (2 * j + 1) * 2 ^ t = 2 * j * 2 ^ t + 2 ^ t := by rw [Nat.succ_mul]); (have hmul2 : j * 2 ^ (t + 1) = 2 * j * 2 ^ t := by rw [Nat.pow_succ, Nat.mul_comm (2 ^ t) 2, ← Nat.mul_assoc, Nat.mul_comm j 2]); (have hc2 : ((l.take ((2 * j + 1) * 2 ^ t)).drop (2 * j * 2 ^ t)).length = 2 ^ t := by rw [List.length_drop, List.length_take]; omega)
      have es : stk nodeD emptyD (l.take ((2 * j + 1) * 2 ^ t)) = stk nodeD emptyD (l.take (2 * j * 2 ^ t)) ++ [rootD ((l.take ((2 * j + 1) * 2 ^ t)).drop (2 * j * 2 ^ t))] := by
        have e0 : l.take ((2 * j + 1) * 2 ^ t) = l.take (2 * j * 2 ^ t) ++ (l.take ((2 * j + 1) * 2 ^ t)).drop (2 * j * 2 ^ t) := by
          have := (List.take_append_drop (2 * j * 2 ^ t) (l.take ((2 * j + 1) * 2 ^ t))).symm; (rw [List.take_take, show min (2 * j * 2 ^ t) ((2 * j + 1) * 2 ^ t) = 2 * j * 2 ^ t by omega] at this); exact this
        (have := stk_app nodeD emptyD t _ hc2 (l.take (2 * j * 2 ^ t)).length (l.take (2 * j * 2 ^ t)) rfl (by rw [List.length_take, Nat.min_eq_left (by omega), ← hmul2]; exact Nat.dvd_mul_left _ _)); rw [← e0] at this; exact this
      obtain ⟨S, hS⟩ : ∃ S, stk nodeD emptyD (l.take (2 * j * 2 ^ t)) = S := ⟨_, rfl⟩; obtain ⟨a, ha⟩ : ∃ a, rootD ((l.take ((2 * j + 1) * 2 ^ t)).drop (2 * j * 2 ^ t)) = a := ⟨_, rfl⟩; obtain ⟨b, hb⟩ : ∃ b, rootD ((l.take (i + 1)).drop ((2 * j + 1) * 2 ^ t)) = b := ⟨_, rfl⟩; (have hSl : S.length ≤ l.length := by rw [← hS]; exact Nat.le_trans (stk_len _ _ rfl) (by rw [List.length_take]; omega)); (have hAs : a.size = 32 := by rw [← ha]; exact rootD_size _ _ rfl (okD_drop (okD_take ok _) _)); (have hBs : b.size = 32 := by rw [← hb]; exact rootD_size _ _ rfl (okD_drop (okD_take ok _) _)); rw [es, hS, ha, hb]; (have hL : (S ++ [a] ++ [b]).length = S.length + 2 := by simp); (have e1 : wrap64 (((S.length + 2 : Nat) : Int) - 1) = ((S.length + 1 : Nat) : Int) := by unfold wrap64; omega); (have e2 : wrap64 (((S.length + 1 : Nat) : Int) - 1) = ((S.length : Nat) : Int) := by unfold wrap64; omega); (have g1 : rdOf ByteArray.empty (S ++ [a] ++ [b]) ((S.length + 1 : Nat) : Int) = b := by rw [rd_at _ _ _ (by omega)]; simp); (have g2 : rdOf ByteArray.empty (S ++ [a] ++ [b]) (S.length : Int) = a := by rw [rd_at _ _ _ (by omega)]; simp); rw [hL, e1, e2, g1, g2]; (refine Evl.pos (by omega) (Evl.pos (by omega) (Evl.pos (by omega) (Evl.pos (by omega) (Evl.bind (tnodeE a b hAs hBs) (Evl.pos (by omega) (Evl.some_bind ?_))))))); (rw [Int.toNat_natCast, show (S ++ [a] ++ [b]).take S.length = S by simp]); (refine Evl.pos (by omega) ?_); (have := ih (j + 1) (by omega) (t + 1) (by omega) (by rw [Nat.succ_mul, hmul2, Nat.pow_succ]; omega)); rw [Nat.add_sub_cancel, hmul2, hS] at this
      have e3 : rootD ((l.take (i + 1)).drop (2 * j * 2 ^ t)) = nodeD a b := by
        (have hc3 : ((l.take (i + 1)).drop (2 * j * 2 ^ t)).length = 2 * 2 ^ t := by rw [List.length_drop, List.length_take]; omega); unfold rootD at *; (rw [root_two nodeD emptyD (by omega), hc3, sp_uniq (h := t) (by omega) (by omega), ← ha, ← hb])
        congr 2
        · rw [List.take_drop, List.take_take]
          congr 2
          omega
        · rw [List.drop_drop]
          congr 1
          omega
      rw [e3] at this; (have e4 : (((2 * j + 1 + 1 : Nat) : Int)) / 2 = ((j + 1 : Nat) : Int) := by omega); rw [e4]; exact this
    · refine Evl.neg hodd ?_
      have e0 : l.take (i + 1) = l.take (m * 2 ^ t) ++ (l.take (i + 1)).drop (m * 2 ^ t) := by
        have := (List.take_append_drop (m * 2 ^ t) (l.take (i + 1))).symm; (rw [List.take_take, show min (m * 2 ^ t) (i + 1) = m * 2 ^ t by omega] at this); exact this
      have es := stk_app nodeD emptyD t _ hc (l.take (m * 2 ^ t)).length (l.take (m * 2 ^ t)) rfl (by
        (rw [List.length_take, Nat.min_eq_left (by omega)]); (obtain ⟨j, rfl⟩ : ∃ j, m = 2 * j := ⟨m / 2, by omega⟩)
        exact ⟨j, by rw [Nat.pow_succ, Nat.mul_comm (2 * j) (2 ^ t), Nat.mul_assoc]⟩)
      rw [← e0] at es; unfold rootD; (rw [← es, w1 i (by omega)]); exact hnext
theorem root_loop (l : List ByteArray) (hl : l.length ≤ 1000000000) (h0 : 0 < l.length) (ok : okD l = true) : ∀ d i : Nat, i + d = l.length → Evl (fun k => tree_root.l0 k l (stk nodeD emptyD (l.take i)) (l.length : Int) (i : Int)) (rootD l)
  | 0, i, h => by
    (obtain rfl : i = l.length := by omega); (refine Evl.step (fun _ => tree_root.l0.eq_2 ..) (Evl.neg (by omega) ?_)); rw [List.take_length]; have h1 := stk_len _ l rfl
    have h2 : 0 < (stk nodeD emptyD l).length := by
      have hne : l ≠ [] := List.length_pos_iff.mp h0; (rw [stk_cons nodeD emptyD hne]; simp)
    exact (end_loop _ _ rfl h2 (by omega) (stk_ok _ _ rfl ok)).cast (comb_stk nodeD emptyD _ l rfl h0)
  | d + 1, i, h => by
    (have hi : i < l.length := by omega); (have h1 : (stk nodeD emptyD (l.take i)).length ≤ l.length := Nat.le_trans (stk_len _ _ rfl) (by rw [List.length_take]; omega)); (refine Evl.step (fun _ => tree_root.l0.eq_2 ..) (Evl.pos (by omega) (Evl.pos (by omega) (Evl.pos (by omega) (Evl.pos (by omega) ?_))))); (rw [rd_at _ l i hi, w1 i (by omega)]); (have := put_loop l hl ok i hi (rootD l) (root_loop l hl h0 ok d (i + 1) (by omega)) (i + 1) 0 (by omega) (by omega)); rw [Nat.add_sub_cancel, Nat.pow_zero, Nat.mul_one] at this
    have e : (l.take (i + 1)).drop i = [l[i]] := by
      rw [List.take_succ_eq_append_getElem hi, List.drop_append_of_le_length (by rw [List.length_take]; omega), List.drop_eq_nil_of_le (by rw [List.length_take]; omega), List.nil_append]
    rw [e] at this; (unfold rootD at this ⊢); rw [root_one] at this; exact this
theorem troot1E (l : List ByteArray) (hl : l.length ≤ 1000000000) (ok : okD l = true) : Evl (fun k => tree_root.f k l) (rootD l) := by
  unfold tree_root.f
  by_cases h : (l.length : Int) = 0
  · refine Evl.pos h (Evl.bind (sumE [] (by simp)) (Evl.ret' ?_))
    (have : l = [] := List.length_eq_zero_iff.mp (by omega)); subst this; unfold rootD; rw [root_nil]; rfl
  · refine Evl.neg h ?_
    (have := root_loop l hl (by omega) ok l.length 0 (by omega)); rw [List.take_zero, stk_nil] at this; exact this
theorem trootE (l : List ByteArray) (hl : l.length ≤ 1000000000) : Evl (fun k => tree_Root.f k l) (if okD l = true then (rootD l, 0) else (⟨#[]⟩, 1)) := by
  unfold tree_Root.f; (refine Evl.bind (allE l (by omega)) ?_); cases ok : okD l
  · exact Evl.ret _
  · exact Evl.pos rfl (Evl.bind (troot1E l hl ok) (Evl.ret _))
end Go.Proofs.YtpmefpdafkbphaaDoor.PureTree

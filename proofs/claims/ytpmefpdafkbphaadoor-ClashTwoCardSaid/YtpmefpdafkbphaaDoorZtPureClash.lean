import Derived.Test.YtpmefpdafkbphaaDoorZtPureO
import Derived.Test.YtpmefpdafkbphaaDoorZtPQ
import Derived.Test.YtpmefpdafkbphaaDoorZtPureTreeR
namespace Go.Proofs.YtpmefpdafkbphaaDoor.PureSealU
open Go.RowKit HSha PS PR PT HNode Evl PureS PureO Go.Proofs.YtpmefpdafkbphaaDoorW.PrintWords Go.Proofs.YtpmefpdafkbphaaDoorW.PrintLast Go.Proofs.YtpmefpdafkbphaaDoorW.PrintMore
set_option linter.unusedVariables false
theorem ev2 {α : Type} {f : Nat → Option α} {r : α} (h : ∀ k, f (k + 2) = some r) : Evl f r := ⟨2, fun k hk => by
  obtain ⟨m, rfl⟩ : ∃ m, k = m + 2 := ⟨k - 2, by omega⟩
  exact h m⟩
def btw (a b : List Int) : List Int × List Int × Bool := if isB a b = true then (a, b, true) else ([], [], false)
theorem betweenE (a b : List Int) (h1 : a.length ≤ 1000000000000) (h2 : b.length ≤ 1000000000000) : Evl (fun _ => seal_Between.f a b) (btw a b) := Evl.of 0 fun _ _ => by
  unfold seal_Between.f; simp only [Option.bind_some, List.nil_append, List.length_nil, Nat.zero_add]; (rw [if_pos (by omega), if_pos (by omega), isF a b h1 h2]); unfold btw; (cases isB a b <;> rfl)
end Go.Proofs.YtpmefpdafkbphaaDoor.PureSealU
namespace Go.Proofs.YtpmefpdafkbphaaDoor.PureClash
open Go.RowKit HSha PS PR PT PB PC PQ HNode HBytes8 PureS PureO PureSealU PureTree Thy Evl Go.Proofs.YtpmefpdafkbphaaDoorW.PrintWords Go.Proofs.YtpmefpdafkbphaaDoorW.PrintLast Go.Proofs.YtpmefpdafkbphaaDoorW.PrintMore
set_option linter.unusedVariables false
abbrev Bs := List Int
abbrev C3 := Bs × Bs × Bool
def nb (a b : ByteArray) : Bs := 1 :: (bytesOf a ++ bytesOf b)
def topD (l : List ByteArray) : Bs := nb (rootD (l.take (sp l.length))) (rootD (l.drop (sp l.length)))
def dg (l : List Bs) : List ByteArray := l.map leafD
def lok (l : List Bs) : Prop := ∀ b ∈ l, b.length ≤ 300 ∧ ∀ x ∈ b, 0 ≤ x ∧ x < 256
theorem lok_take {l : List Bs} (h : lok l) (n : Nat) : lok (l.take n) := fun b hb => h b (List.mem_of_mem_take hb)
theorem lok_drop {l : List Bs} (h : lok l) (n : Nat) : lok (l.drop n) := fun b hb => h b (List.mem_of_mem_drop hb)
theorem dg_len (l : List Bs) : (dg l).length = l.length := List.length_map _
theorem dg_ok (l : List Bs) : okD (dg l) = true := by
  unfold dg okD; rw [List.all_map, List.all_eq_true]; intro x _; simp [leafD_size]
theorem cons_range {a0 : Int} (h0 : 0 ≤ a0 ∧ a0 < 256) {b : Bs} (hb : ∀ x ∈ b, 0 ≤ x ∧ x < 256) : ∀ x ∈ a0 :: b, 0 ≤ x ∧ x < 256 := fun x hx => by
  rcases List.mem_cons.1 hx with rfl | hx
  · exact h0
  · exact hb x hx
theorem nb_range (a b : ByteArray) : ∀ x ∈ nb a b, 0 ≤ x ∧ x < 256 := cons_range (by omega) fun x hx => by
  rcases List.mem_append.1 hx with hx | hx
  · exact bytesOf_range _ x hx
  · exact bytesOf_range _ x hx
theorem nb_len {a b : ByteArray} (ha : a.size = 32) (hb : b.size = 32) : (nb a b).length = 65 := by
  unfold nb; (rw [List.length_cons, List.length_append, bytesOf_length, bytesOf_length]; omega)
theorem rootD_ok {l : List ByteArray} (ok : okD l = true) : (rootD l).size = 32 := rootD_size _ l rfl ok
theorem topD_len {l : List ByteArray} (ok : okD l = true) : (topD l).length = 65 := nb_len (rootD_ok (okD_take ok _)) (rootD_ok (okD_drop ok _))
theorem rd_at2 (l : List Bs) (i : Nat) (h : i < l.length) : PQ.rd_L2 l (i : Int) = l[i] := by
  unfold PQ.rd_L2; rw [Int.toNat_natCast, List.getD_eq_getElem?_getD, List.getElem?_eq_getElem h]; rfl
theorem leavesE_loop (l : List Bs) (hl : l.length ≤ 1000000) (hk : lok l) : ∀ (d i : Nat), i + d = l.length → Evl (fun k => tree_Leaves.l0 k (dg (l.take i)) l (l.length : Int) (i : Int)) (dg l)
  | 0, i, h => by
    refine Evl.step (fun _ => tree_Leaves.l0.eq_2 ..) (Evl.neg (by omega) (Evl.ret' ?_))
    rw [List.take_of_length_le (by omega)]
  | d + 1, i, h => by
    (have hi : i < l.length := by omega); have hb := hk _ (List.getElem_mem hi)
    have e : PB.rd_L3 l (i : Int) = l[i] := by
      unfold PB.rd_L3; rw [Int.toNat_natCast, List.getD_eq_getElem?_getD, List.getElem?_eq_getElem hi]; rfl
    (have hle : (dg (l.take i)).length ≤ 1000000 := by rw [dg_len, List.length_take]; omega); (refine Evl.step (fun _ => tree_Leaves.l0.eq_2 ..) (Evl.pos (by omega) (Evl.pos (by omega) (Evl.pos (by omega) ?_)))); (rw [e, w1 i (by omega)]); (refine Evl.bind (leafE _ hb.2 (by omega)) (Evl.pos (by omega) ?_)); (have := leavesE_loop l hl hk d (i + 1) (by omega)); rw [List.take_succ_eq_append_getElem hi] at this; (unfold dg at this ⊢); rw [List.map_append] at this; exact this
theorem leavesE (l : List Bs) (hl : l.length ≤ 1000000) (hk : lok l) : Evl (fun k => tree_Leaves.f k l) (dg l) := leavesE_loop l hl hk l.length 0 (by omega)
theorem rleavesE_loop (l : List Bs) (hl : l.length ≤ 1000000) (hk : lok l) : ∀ (d i : Nat), i + d = l.length → Evl (fun k => rubrickref06_Leaves.l0 k l (dg (l.take i)) (i : Int)) (dg l)
  | 0, i, h => by
    refine Evl.step (fun _ => rubrickref06_Leaves.l0.eq_2 ..) (Evl.neg (by omega) (Evl.ret' ?_))
    rw [List.take_of_length_le (by omega)]
  | d + 1, i, h => by
    (have hi : i < l.length := by omega); have hb := hk _ (List.getElem_mem hi)
    have e : PC.rd_L2 l (i : Int) = l[i] := by
      unfold PC.rd_L2; rw [Int.toNat_natCast, List.getD_eq_getElem?_getD, List.getElem?_eq_getElem hi]; rfl
    (have hle : (dg (l.take i)).length ≤ 1000000 := by rw [dg_len, List.length_take]; omega); (refine Evl.step (fun _ => rubrickref06_Leaves.l0.eq_2 ..) (Evl.pos (by omega) (Evl.pos (by omega) ?_))); (rw [e, w1 i (by omega)]); (refine Evl.bind (rleafE _ hb.2 (by omega)) (Evl.pos (by omega) ?_)); (have := rleavesE_loop l hl hk d (i + 1) (by omega)); rw [List.take_succ_eq_append_getElem hi] at this; (unfold dg at this ⊢); rw [List.map_append] at this; exact this
theorem rleavesE (l : List Bs) (hl : l.length ≤ 1000000) (hk : lok l) : Evl (fun k => rubrickref06_Leaves.f k l) (dg l) := rleavesE_loop l hl hk l.length 0 (by omega)
theorem cl_rootE (l : List ByteArray) (hl : l.length ≤ 1000000) (ok : okD l = true) : Evl (fun k => clash_root.f k l) (rootD l) := by
  unfold clash_root.f; (refine Evl.bind (trootE l (by omega)) (Evl.ret' ?_)); rw [if_pos ok]
theorem nbE (a b : ByteArray) (ha : a.size = 32) (hb : b.size = 32) : Evl (fun k => seal_NodeBytes.f k a b) (nb a b) := ⟨3, fun k hk => by
  obtain ⟨m, rfl⟩ : ∃ m, k = m + 3 := ⟨k - 3, by omega⟩
  exact nodeBytesF m a b (by omega) (by omega)⟩
theorem lbE (b : Bs) (hb : ∀ x ∈ b, 0 ≤ x ∧ x < 256) (hl : b.length ≤ 1000000) : Evl (fun k => seal_LeafBytes.f k b) (0 :: b) := ev2 fun k => by rw [leafBytesF k b (by omega), bytesOf_str hb]
theorem bytes8E (a b : ByteArray) (ha : a.size ≤ 1000000) (hb : b.size ≤ 1000000) : Evl (fun k => rubrickref08_bytes.f k a b) (nb a b) := by
  (have e : (bytesOf (a ++ b)).length = a.size + b.size := by rw [bytesOf_length, ByteArray.size_append]); (have := bytesE 1 (by omega) (bytesOf (a ++ b)) (by omega)); rw [bytesOf_app] at this; unfold rubrickref08_bytes.f; rw [bytesOf_app]; (exact Evl.pos (by omega) this)
theorem halvesE (l : List ByteArray) (h : 2 ≤ l.length) (hl : l.length ≤ 1000000) (ok : okD l = true) : Evl (fun k => clash_halves.f k l) (topD l) := by
  have k1 := sp_lt h; unfold clash_halves.f; (refine Evl.bind ((splitE _).cast (splitN_nat h (by omega))) (Evl.pos (by omega) (Evl.pos (by omega) ?_))); rw [Int.toNat_natCast]; (exact Evl.bind (cl_rootE _ (by rw [List.length_take]; omega) (okD_take ok _)) (Evl.bind (cl_rootE _ (by rw [List.length_drop]; omega) (okD_drop ok _)) (Evl.bind (nbE _ _ (rootD_ok (okD_take ok _)) (rootD_ok (okD_drop ok _))) (Evl.ret _))))
theorem topE (l : List ByteArray) (h : 2 ≤ l.length) (hl : l.length ≤ 1000000) (ok : okD l = true) : Evl (fun k => rubrickref08_top.f k l) (topD l) := by
  have k1 := sp_lt h; have s1 := rootD_ok (okD_take ok (sp l.length)); have s2 := rootD_ok (okD_drop ok (sp l.length)); unfold rubrickref08_top.f; (refine Evl.bind ((rsplitE _).cast (splitN_nat h (by omega))) (Evl.pos (by omega) (Evl.pos (by omega) ?_))); rw [Int.toNat_natCast]; (exact Evl.bind (rrootE _ (l.take (sp l.length)) rfl (by rw [List.length_take]; omega) (okD_take ok _)) (Evl.bind (rrootE _ (l.drop (sp l.length)) rfl (by rw [List.length_drop]; omega) (okD_drop ok _)) (Evl.bind (bytes8E _ _ (by omega) (by omega)) (Evl.ret _))))
def fstD : List (S77) → C3
  | [] => ([], [], false)
  | p :: r => if isB p.f0 p.f1 = true then (p.f0, p.f1, true) else fstD r
theorem fstD_one (a b : Bs) : fstD [(⟨a, b⟩ : S77)] = btw a b := rfl
theorem fstD_cons (a b : Bs) (r : List (S77)) : fstD ((⟨a, b⟩ : S77) :: r) = if (btw a b).2.2 = true then btw a b else fstD r := by
  (show (if isB a b = true then (a, b, true) else fstD r) = _); unfold btw
  by_cases h : isB a b = true
  · rw [if_pos h, if_pos h, if_pos rfl]
  · rw [if_neg h, if_neg h, if_neg (by decide)]
theorem tri {x : C3} (h : x.2.2 = true) : (x.1, x.2.1, true) = x := by
  rcases x with ⟨a, b, c⟩; (cases h; rfl)
theorem trf {α β : Type} {x : α × β × Bool} : (x.1, x.2.1, x.2.2) = x := rfl
theorem rdT_at (l : List (S77)) (i : Nat) (h : i < l.length) : PQ.rd_T77 l (i : Int) = l[i] := by
  unfold PQ.rd_T77; rw [Int.toNat_natCast, List.getD_eq_getElem?_getD, List.getElem?_eq_getElem h]; rfl
theorem first_loop (l : List (S77)) (hl : l.length ≤ 1000000) (hs : ∀ p ∈ l, p.f0.length ≤ 1000000 ∧ p.f1.length ≤ 1000000) : ∀ (d i : Nat), i + d = l.length → Evl (fun k => clash_first.l0 k l (l.length : Int) (i : Int)) (fstD (l.drop i))
  | 0, i, h => by
    refine Evl.step (fun _ => clash_first.l0.eq_2 ..) (Evl.neg (by omega) (Evl.ret' ?_))
    rw [List.drop_eq_nil_of_le (by omega)]; rfl
  | d + 1, i, h => by
    (have hi : i < l.length := by omega); have hb := hs _ (List.getElem_mem hi); have e : l.drop i = (⟨l[i].f0, l[i].f1⟩ : S77) :: l.drop (i + 1) := List.drop_eq_getElem_cons hi; rw [e, fstD_cons]; (refine Evl.step (fun _ => clash_first.l0.eq_2 ..) (Evl.pos (by omega) (Evl.pos (by omega) (Evl.pos (by omega) ?_)))); rw [rdT_at l i hi]; (refine Evl.bind (betweenE _ _ (by omega) (by omega)) ?_)
    by_cases hh : (btw l[i].f0 l[i].f1).2.2 = true
    · rw [if_pos hh]
      exact Evl.pos hh (Evl.ret' (tri hh))
    · rw [if_neg hh]
      refine Evl.neg hh ?_; (rw [w1 i (by omega)]); (exact first_loop l hl hs d (i + 1) (by omega))
theorem firstE (l : List (S77)) (hl : l.length ≤ 1000000) (hs : ∀ p ∈ l, p.f0.length ≤ 1000000 ∧ p.f1.length ≤ 1000000) : Evl (fun k => clash_first.f k l) (fstD l) := by
  (have := first_loop l hl hs l.length 0 (by omega)); rw [List.drop_zero] at this; exact this
theorem firstE1 (a b : Bs) (ha : a.length ≤ 1000000) (hb : b.length ≤ 1000000) : Evl (fun k => clash_first.f k [(⟨a, b⟩ : S77)]) (btw a b) := (firstE _ (by simp) (by simp; omega)).cast (fstD_one a b)
theorem rbetweenE (a b : Bs) (ra : ∀ x ∈ a, 0 ≤ x ∧ x < 256) (rb : ∀ x ∈ b, 0 ≤ x ∧ x < 256) (ha : a.length ≤ 1000000) (hb : b.length ≤ 1000000) : Evl (fun k => rubrickref08_Between.f k a b) (btw a b) := by
  have c : Evl (fun k => rubrickref03_Clash.f k a b) (isB a b) := by
    unfold rubrickref03_Clash.f isB; (refine Evl.bind (rsumE a ra (by omega)) (Evl.bind (rsumE b rb (by omega)) ?_))
    by_cases h : (shaSum a).toList = (shaSum b).toList
    · refine Evl.pos h (Evl.ret' ?_)
      rw [beq_iff_eq.mpr h, Bool.and_true]; rfl
    · refine Evl.neg h (Evl.ret' ?_)
      rw [beq_eq_false_iff_ne.mpr h, Bool.and_false]
  unfold rubrickref08_Between.f btw; refine Evl.bind c ?_
  by_cases h : isB a b = true
  · exact (Evl.pos h (Evl.ret _)).cast (if_pos h).symm
  · exact (Evl.neg h (Evl.ret _)).cast (if_neg h).symm
theorem sameE8 (t : C3) (h : t.2.2 = true → isB t.1 t.2.1 = true) (h1 : t.1.length ≤ 1000000) (h2 : t.2.1.length ≤ 1000000) : Evl (fun _ => rubricklaw08_same.f t.1 t.2.1 t.2.2 t.1 t.2.1 t.2.2) true := by
  unfold rubricklaw08_same.f; (refine Evl.pos (by simp) (Evl.pos rfl (Evl.pos rfl ?_)))
  by_cases hh : t.2.2 = true
  · refine Evl.pos hh ?_
    (rw [isF _ _ (by omega) (by omega)]); exact Evl.ret' (h hh)
  · exact Evl.neg hh (Evl.ret _)
theorem btw_is {a b : Bs} (h : (btw a b).2.2 = true) : isB (btw a b).1 (btw a b).2.1 = true := by
  unfold btw at *; split at h
  · next hh => rw [if_pos hh]; exact hh
  · cases h
theorem btw_len {a b : Bs} {n : Nat} (ha : a.length ≤ n) (hb : b.length ≤ n) : (btw a b).1.length ≤ n ∧ (btw a b).2.1.length ≤ n := by
  unfold btw; split
  · exact ⟨ha, hb⟩
  · exact ⟨Nat.zero_le _, Nat.zero_le _⟩
def great8 (l : List Bs) : Bool := l.any (fun b => decide (300 < b.length)) || decide (25 < l.length)
theorem great8_loop (l : List Bs) (hl : l.length ≤ 9223372036854775807) : ∀ d i : Nat, i + d = l.length → Evl (fun k => rubricklaw08_Great.l0 k l (i : Int)) ((l.drop i).any (fun b => decide (300 < b.length)) || decide (25 < l.length))
  | 0, i, h => by
    refine Evl.step (fun _ => rubricklaw08_Great.l0.eq_2 ..) (Evl.neg (by omega) (Evl.ret' ?_))
    rw [List.drop_eq_nil_of_le (by omega), List.any_nil, Bool.false_or, decide_eq_decide]; omega
  | d + 1, i, h => by
    (have hi : i < l.length := by omega); rw [List.drop_eq_getElem_cons hi, List.any_cons]; (refine Evl.step (fun _ => rubricklaw08_Great.l0.eq_2 ..) (Evl.pos (by omega) (Evl.pos (by omega) ?_))); rw [rd_at2 l i hi]
    by_cases hs : (l[i].length : Int) > 300
    · refine Evl.pos hs (Evl.ret' ?_)
      rw [decide_eq_true (show 300 < l[i].length by omega)]; rfl
    · refine Evl.neg hs ?_
      (rw [decide_eq_false (show ¬ 300 < l[i].length by omega), Bool.false_or, show wrap64 ((i : Int) + 1) = ((i + 1 : Nat) : Int) by unfold wrap64; omega]); (exact great8_loop l hl d (i + 1) (by omega))
theorem great8E (l : List Bs) (hl : l.length ≤ 9223372036854775807) : Evl (fun k => rubricklaw08_Great.f k l) (great8 l) := by
  (have := great8_loop l hl l.length 0 (by omega)); rw [List.drop_zero] at this; exact this
theorem great8_len {l : List Bs} (h : great8 l = false) : l.length ≤ 25 := by
  unfold great8 at h; rw [Bool.or_eq_false_iff] at h; have := of_decide_eq_false h.2; omega
theorem great8_lok {l : List Bs} (h : great8 l = false) (hl : ∀ x ∈ l, x.length ≤ 9223372036854775807 ∧ ∀ y ∈ x, (Lit.int .u8 y).wf = true) : lok l := fun b hb => by
  unfold great8 at h; rw [Bool.or_eq_false_iff] at h; have := List.any_eq_false.1 h.1 b hb; (exact ⟨by simpa using this, bytes_wf (hl b hb).2⟩)
end Go.Proofs.YtpmefpdafkbphaaDoor.PureClash

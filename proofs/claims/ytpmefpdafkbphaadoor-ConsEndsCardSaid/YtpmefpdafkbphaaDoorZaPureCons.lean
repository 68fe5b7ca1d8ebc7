import Derived.Test.YtpmefpdafkbphaaDoorZaHCheck
import Derived.Test.YtpmefpdafkbphaaDoorZaPureTreeR
import Derived.Test.YtpmefpdafkbphaaDoorZaThyCons
namespace Go.Proofs.YtpmefpdafkbphaaDoor.PureCons
open Go.RowKit Go.Proofs.YtpmefpdafkbphaaDoor.HSha Go.Proofs.YtpmefpdafkbphaaDoor.PS Go.Proofs.YtpmefpdafkbphaaDoor.PB Go.Proofs.YtpmefpdafkbphaaDoor.PC Go.Proofs.YtpmefpdafkbphaaDoor.PP Go.Proofs.YtpmefpdafkbphaaDoor.HNode Go.Proofs.YtpmefpdafkbphaaDoor.HProve Go.Proofs.YtpmefpdafkbphaaDoor.PureS Go.Proofs.YtpmefpdafkbphaaDoor.PureO Go.Proofs.YtpmefpdafkbphaaDoor.PureTree Go.Proofs.YtpmefpdafkbphaaDoor.Thy Go.Proofs.YtpmefpdafkbphaaDoor.Evl Go.Proofs.YtpmefpdafkbphaaDoorW.PrintWords Go.Proofs.YtpmefpdafkbphaaDoorW.PrintLast Go.Proofs.YtpmefpdafkbphaaDoorW.PrintMore
set_option linter.unusedVariables false
/-- A proof for the first m of a list: by its division. -/
def partD (l : List ByteArray) (m : Nat) (wh : Bool) : List ByteArray :=
  if m = l.length then (if wh = true then [] else [rootD l])
  else if h : 2 ≤ l.length then (if m ≤ sp l.length then partD (l.take (sp l.length)) m wh ++ [rootD (l.drop (sp l.length))] else partD (l.drop (sp l.length)) (m - sp l.length) false ++ [rootD (l.take (sp l.length))])
  else []
  termination_by l.length
  decreasing_by
    · rw [List.length_take]; have := sp_lt h; omega
    · rw [List.length_drop]; have := sp_pos l.length; omega
theorem partD_all {l : List ByteArray} (wh : Bool) : partD l l.length wh = if wh = true then [] else [rootD l] := by rw [partD, if_pos rfl]
theorem partD_left {l : List ByteArray} {m : Nat} (h : m ≠ l.length) (h2 : 2 ≤ l.length) (hm : m ≤ sp l.length) (wh : Bool) : partD l m wh = partD (l.take (sp l.length)) m wh ++ [rootD (l.drop (sp l.length))] := by rw [partD, if_neg h, dif_pos h2, if_pos hm]
theorem partD_right {l : List ByteArray} {m : Nat} (h : m ≠ l.length) (h2 : 2 ≤ l.length) (hm : ¬ m ≤ sp l.length) (wh : Bool) : partD l m wh = partD (l.drop (sp l.length)) (m - sp l.length) false ++ [rootD (l.take (sp l.length))] := by rw [partD, if_neg h, dif_pos h2, if_neg hm]
theorem partD_len : ∀ (n : Nat) (l : List ByteArray) (m : Nat) (wh : Bool), l.length = n → (partD l m wh).length ≤ n + 1 := by
  intro n
  induction n using Nat.strongRecOn with
  | _ n ih =>
    intro l m wh hl
    by_cases h : m = l.length
    · subst h; rw [partD_all]; split <;> simp
    by_cases h2 : 2 ≤ l.length
    · have k1 := sp_lt h2
      have k2 := sp_pos l.length
      by_cases hm : m ≤ sp l.length
      · rw [partD_left h h2 hm, List.length_append, List.length_singleton]
        have := ih (sp l.length) (by omega) (l.take (sp l.length)) m wh (by rw [List.length_take]; omega)
        omega
      · rw [partD_right h h2 hm, List.length_append, List.length_singleton]
        have := ih (l.length - sp l.length) (by omega) (l.drop (sp l.length)) (m - sp l.length) false (by rw [List.length_drop])
        omega
    · rw [partD, if_neg h, dif_neg h2]; simp
/-- The document's proof. -/
theorem rpartE : ∀ (n : Nat) (l : List ByteArray) (m : Nat) (wh : Bool), l.length = n → 1 ≤ m → m ≤ n → n ≤ 1000000000 → okD l = true → Evl (fun k => rubrickref07_part.f k l (m : Int) wh) (partD l m wh) := by
  intro n
  induction n using Nat.strongRecOn with
  | _ n ih =>
    intro l m wh hl h0 h1 hn ok
    refine Evl.step (fun _ => rubrickref07_part.f.eq_2 ..) ?_
    by_cases h : m = l.length
    · refine Evl.pos (by omega) ?_
      rw [h, partD_all]
      cases wh with
      | true => exact Evl.pos rfl (Evl.ret' rfl)
      | false => exact Evl.neg (by decide) (Evl.bind (rrootE n l hl hn ok) (Evl.ret' rfl))
    have h2 : 2 ≤ l.length := by omega
    have k1 := sp_lt h2
    have k2 := sp_pos l.length
    refine Evl.neg (by omega) (Evl.bind ((rsplitE _).cast (splitN_nat h2 (by omega))) ?_)
    have ok1 := okD_take ok (sp l.length)
    have ok2 := okD_drop ok (sp l.length)
    by_cases hm : m ≤ sp l.length
    · refine Evl.pos (by omega) (Evl.pos (by omega) (Evl.pos (by omega) ?_))
      rw [Int.toNat_natCast, partD_left h h2 hm]
      have hp := partD_len (sp l.length) (l.take (sp l.length)) m wh (by rw [List.length_take]; omega)
      exact Evl.bind (ih (sp l.length) (by omega) _ m wh (by rw [List.length_take]; omega) h0 hm (by omega) ok1) (Evl.bind (rrootE _ (l.drop (sp l.length)) rfl (by rw [List.length_drop]; omega) ok2) (Evl.pos (by omega) (Evl.ret _)))
    · refine Evl.neg (by omega) (Evl.pos (by omega) (Evl.pos (by omega) ?_))
      rw [Int.toNat_natCast, partD_right h h2 hm, show wrap64 ((m : Int) - (sp l.length : Int)) = ((m - sp l.length : Nat) : Int) by rw [wN (by omega) (by omega)]; omega]
      have hp := partD_len (l.length - sp l.length) (l.drop (sp l.length)) (m - sp l.length) false (by rw [List.length_drop])
      exact Evl.bind (ih (l.length - sp l.length) (by omega) _ (m - sp l.length) false (by rw [List.length_drop]) (by omega) (by omega) (by omega) ok2) (Evl.bind (rrootE _ (l.take (sp l.length)) rfl (by rw [List.length_take]; omega) ok1) (Evl.pos (by omega) (Evl.ret _)))
theorem putE (l xs : List ByteArray) (hl : l.length ≤ 1000000000) (ok : okD l = true) (hx : xs.length ≤ 1000000000) : Evl (fun k => putF k l xs) (xs ++ [rootD l]) := by
  unfold putF
  refine Evl.bind (trootE l hl) ?_
  rw [if_pos ok]
  exact Evl.pos (by omega) (Evl.ret _)
theorem turn1_loop (xs : List ByteArray) (hx : xs.length ≤ 1000000000) : ∀ (i : Nat) (out : List ByteArray), i ≤ xs.length → out.length + i ≤ 1000000000 → Evl (fun k => cons_Prove.l1 k xs out ((i : Int) - 1)) (out ++ (xs.take i).reverse, 0)
  | 0, out, _, _ => by
    refine Evl.step (fun _ => cons_Prove.l1.eq_2 ..) (Evl.neg (by omega) (Evl.ret' ?_))
    simp
  | i + 1, out, h, ho => by
    refine Evl.step (fun _ => cons_Prove.l1.eq_2 ..) (Evl.pos (by omega) (Evl.pos (by omega) (Evl.pos (by omega) ?_)))
    have e : ((i + 1 : Nat) : Int) - 1 = (i : Int) := by omega
    rw [e, rd_at ByteArray.empty xs i (by omega), wN (by omega) (by omega)]
    refine (turn1_loop xs hx i (out ++ [xs[i]]) (by omega) (by rw [List.length_append, List.length_singleton]; omega)).cast ?_
    rw [List.take_succ_eq_append_getElem (by omega), List.reverse_append]
    simp
/-- The program's proof: the same one. -/
theorem prove_loop : ∀ (n : Nat) (l : List ByteArray) (m : Nat) (wh : Bool) (xs : List ByteArray), l.length = n → 1 ≤ m → m ≤ n → n + xs.length ≤ 1000000 → okD l = true → Evl (fun k => cons_Prove.l0 k l (m : Int) wh xs) (partD l m wh ++ xs.reverse, 0) := by
  intro n
  induction n using Nat.strongRecOn with
  | _ n ih =>
    intro l m wh xs hl h0 h1 hn ok
    refine Evl.step (fun _ => cons_Prove.l0.eq_2 ..) ?_
    by_cases h : m = l.length
    · refine Evl.neg (by omega) ?_
      rw [h, partD_all]
      cases wh with
      | true =>
        refine Evl.pos rfl ?_
        rw [wN (by omega) (by omega)]
        refine (turn1_loop xs (by omega) xs.length [] (by omega) (by simp; omega)).cast ?_
        rw [List.take_length]; rfl
      | false =>
        have hle : (xs ++ [rootD l]).length ≤ 2000000 := by rw [List.length_append, List.length_singleton]; omega
        refine Evl.neg (by decide) (Evl.bind (putE l xs (by omega) ok (by omega)) ?_)
        rw [wN (by omega) (by omega)]
        refine (turn1_loop (xs ++ [rootD l]) (by simp; omega) (xs ++ [rootD l]).length [] (by omega) (by simp; omega)).cast ?_
        rw [List.take_length, List.reverse_append]; rfl
    have h2 : 2 ≤ l.length := by omega
    have k1 := sp_lt h2
    have k2 := sp_pos l.length
    refine Evl.pos (by omega) (Evl.bind ((splitE _).cast (splitN_nat h2 (by omega))) (Evl.pos (by omega) (Evl.pos (by omega) ?_)))
    have ok1 := okD_take ok (sp l.length)
    have ok2 := okD_drop ok (sp l.length)
    rw [Int.toNat_natCast]
    by_cases hm : m ≤ sp l.length
    · refine Evl.pos (by omega) (Evl.bind (putE (l.drop (sp l.length)) xs (by rw [List.length_drop]; omega) ok2 (by omega)) ?_)
      refine (ih (sp l.length) (by omega) (l.take (sp l.length)) m wh (xs ++ [rootD (l.drop (sp l.length))]) (by rw [List.length_take]; omega) h0 hm (by rw [List.length_append, List.length_singleton]; omega) ok1).cast ?_
      rw [partD_left h h2 hm, List.reverse_append, List.append_assoc]; rfl
    · refine Evl.neg (by omega) (Evl.bind (putE (l.take (sp l.length)) xs (by rw [List.length_take]; omega) ok1 (by omega)) ?_)
      rw [show wrap64 ((m : Int) - (sp l.length : Int)) = ((m - sp l.length : Nat) : Int) by rw [wN (by omega) (by omega)]; omega]
      refine (ih (l.length - sp l.length) (by omega) (l.drop (sp l.length)) (m - sp l.length) false (xs ++ [rootD (l.take (sp l.length))]) (by rw [List.length_drop]) (by omega) (by omega) (by rw [List.length_append, List.length_singleton]; omega) ok2).cast ?_
      rw [partD_right h h2 hm, List.reverse_append, List.append_assoc]; rfl
theorem call_loop (l : List ByteArray) (hl : l.length ≤ 1000000000000) : ∀ d i : Nat, i + d = l.length → Evl (fun k => cons_all.l0 k l (l.length : Int) (i : Int)) (okD (l.drop i))
  | 0, i, h => by
    refine Evl.step (fun _ => cons_all.l0.eq_2 ..) (Evl.neg (by omega) (Evl.ret' ?_))
    rw [List.drop_eq_nil_of_le (by omega)]; rfl
  | d + 1, i, h => by
    have hi : i < l.length := by omega
    rw [List.drop_eq_getElem_cons hi]
    refine Evl.step (fun _ => cons_all.l0.eq_2 ..) (Evl.pos (by omega) (Evl.pos (by omega) (Evl.pos (by omega) ?_)))
    rw [rd_at _ l i hi]
    by_cases hs : (l[i].size : Int) = 32
    · refine Evl.pos hs ?_
      rw [w1 i (by omega)]
      refine (call_loop l hl d (i + 1) (by omega)).cast ?_
      have : l[i].size = 32 := by omega
      simp only [okD, List.all_cons, this, beq_self_eq_true, Bool.true_and]
    · refine Evl.neg hs (Evl.ret' ?_)
      have : ¬ l[i].size = 32 := by omega
      simp only [okD, List.all_cons, beq_eq_false_iff_ne.mpr this, Bool.false_and]
theorem callE (l : List ByteArray) (hl : l.length ≤ 1000000000000) : Evl (fun k => cons_all.f k l) (okD l) := by
  have := call_loop l hl l.length 0 (by omega)
  rw [List.drop_zero] at this
  exact this
/-- The root of digests. -/
def proveA (l : List ByteArray) (m : Int) : List ByteArray × Int := if okD l = true ∧ 0 ≤ m ∧ m ≤ l.length then (if m = 0 then [] else partD l m.toNat true, 0) else ([], 1)
theorem ProveE (l : List ByteArray) (hl : l.length ≤ 1000000) (m : Int) : Evl (fun k => cons_Prove.f k l m) (proveA l m) := by
  unfold cons_Prove.f proveA
  refine Evl.bind (callE l (by omega)) ?_
  by_cases ok : okD l = true
  rotate_left
  · rw [if_neg (fun h => ok h.1)]
    exact Evl.neg ok (Evl.ret _)
  refine Evl.pos ok ?_
  by_cases h1 : m < 0
  · rw [if_neg (fun h => by omega)]; exact Evl.pos h1 (Evl.ret _)
  refine Evl.neg h1 ?_
  by_cases h2 : m > (l.length : Int)
  · rw [if_neg (fun h => by omega)]; exact Evl.pos h2 (Evl.ret _)
  rw [if_pos ⟨ok, by omega, by omega⟩]
  refine Evl.neg h2 ?_
  by_cases h3 : m = 0
  · rw [if_pos h3]; exact Evl.pos h3 (Evl.ret _)
  rw [if_neg h3]
  refine Evl.neg h3 ?_
  obtain ⟨n, rfl⟩ : ∃ n : Nat, m = (n : Int) := ⟨m.toNat, by omega⟩
  have := prove_loop l.length l n true [] rfl (by omega) (by omega) (by simp; omega) ok
  simpa using this
theorem rProveE (l : List ByteArray) (hl : l.length ≤ 1000000) (ok : okD l = true) (m : Int) (h0 : 0 ≤ m) (h1 : m ≤ l.length) : Evl (fun k => rubrickref07_Prove.f k l m) (if m = 0 then [] else partD l m.toNat true) := by
  unfold rubrickref07_Prove.f
  by_cases h3 : m = 0
  · rw [if_pos h3]; exact Evl.pos h3 (Evl.ret _)
  rw [if_neg h3]
  obtain ⟨n, rfl⟩ : ∃ n : Nat, m = (n : Int) := ⟨m.toNat, by omega⟩
  rw [Int.toNat_natCast]
  exact Evl.neg h3 (Evl.bind (rpartE l.length l n true rfl (by omega) (by omega) (by omega) ok) (Evl.ret _))
end Go.Proofs.YtpmefpdafkbphaaDoor.PureCons

import Derived.Test.YtgcfhgkhokljcaaZbPurePost2
namespace Go.Proofs.Ytgcfhgkhokljcaa.PurePost
open Go.RowKit Go.Proofs.Ytgcfhgkhokljcaa.PA Go.Proofs.Ytgcfhgkhokljcaa.Evl Go.Proofs.YtgcfhgkhokljcaaW.PrintWords Go.Proofs.YtgcfhgkhokljcaaW.PrintLast Go.Proofs.YtgcfhgkhokljcaaW.PrintMore
set_option linter.unusedVariables false
/-- What is read from a place on: d postings are to come. -/
def rdG (b : List Int) : Nat → Nat → Int → List Int → List Int × Int
  | 0, at_, _, ps => if at_ < b.length then ([], 2) else (ps, 0)
  | d + 1, at_, last, ps => if (rdN (b.drop at_) 9 0 0).1 = 0 then (if ((rdN (b.drop at_) 9 0 0).2.1 : Int) ≥ 999 - last then ([], 2) else rdG b d (at_ + (rdN (b.drop at_) 9 0 0).2.2) (last + ((rdN (b.drop at_) 9 0 0).2.1 + 1)) (ps ++ [last + ((rdN (b.drop at_) 9 0 0).2.1 + 1)])) else ([], (rdN (b.drop at_) 9 0 0).1)
def readL (b : List Int) : List Int × Int := if (rdN b 9 0 0).1 = 0 then (if (rdN b 9 0 0).2.1 > 1000 then ([], 2) else rdG b (rdN b 9 0 0).2.1 (rdN b 9 0 0).2.2 (-1) []) else ([], (rdN b 9 0 0).1)
theorem done0 (b : List Int) (i : Nat) (hi : i ≤ b.length) : code_Done.f b (i : Int) 0 = some (if i < b.length then 2 else 0) := by
  unfold code_Done.f code_open.f
  rw [if_pos rfl, if_neg (by omega), if_neg (by omega)]
  by_cases h : i < b.length
  · rw [if_pos h]; exact if_pos (show (i : Int) < (b.length : Int) by omega)
  · rw [if_neg h]; exact if_neg (show ¬ (i : Int) < (b.length : Int) by omega)
theorem doneE (b : List Int) (i e : Int) (h : e ≠ 0) : code_Done.f b i e = some e := by
  unfold code_Done.f code_open.f
  rw [if_neg h]
  have : (e == 0) = false := by simp [h]
  simp only [Option.bind_some, this]
  rfl
theorem numA_ok (b : List Int) (at_ : Int) (r : Int × Nat × Nat) (h : r.1 = 0) : numA b at_ r = (b, at_ + (r.2.2 : Int), 0, (r.2.1 : Int)) := if_pos h
theorem numA_no (b : List Int) (at_ : Int) (r : Int × Nat × Nat) (h : r.1 ≠ 0) : numA b at_ r = (b, at_, r.1, 0) := if_neg h
theorem rdN_fits (b : List Int) (hr : ∀ x ∈ b, 0 ≤ x ∧ x < 256) (at_ : Nat) (ha : at_ ≤ b.length) (h : (rdN (b.drop at_) 9 0 0).1 = 0) : at_ + (rdN (b.drop at_) 9 0 0).2.2 ≤ b.length ∧ b.drop at_ = numE (rdN (b.drop at_) 9 0 0).2.1 ++ b.drop (at_ + (rdN (b.drop at_) 9 0 0).2.2) := by
  obtain ⟨hi, e1, e2, e3, e4, e5, e6⟩ := rdN_back (b.drop at_) (fun x hx => hr x (List.mem_of_mem_drop hx)) 9 0 0 (rdN (b.drop at_) 9 0 0).2.1 (rdN (b.drop at_) 9 0 0).2.2 (by rw [← h])
  rw [List.length_drop] at e4
  rw [Nat.pow_zero, Nat.mul_one, Nat.zero_add] at e1
  rw [List.drop_zero, List.drop_drop, ← e1] at e2
  exact ⟨by omega, e2⟩
theorem readG_loop (b : List Int) (hb : b.length ≤ 1000000) (hr : ∀ x ∈ b, 0 ≤ x ∧ x < 256) (cnt : Int) (hc : cnt ≤ 1000) : ∀ (d at_ : Nat) (last : Int) (ps : List Int) (i : Int), i + d = cnt → 0 ≤ i → at_ ≤ b.length → -1 ≤ last → last < 1000 → (ps.length : Int) ≤ last + 1 →
    Evl (fun k => post_Read.l0 k ps last cnt i b (at_ : Int) 0) (rdG b d at_ last ps)
  | 0, at_, last, ps, i, h, h0, ha, hl, hl2, hp => by
    refine Evl.step (fun _ => post_Read.l0.eq_2 ..) (Evl.neg (by omega) ?_)
    rw [done0 b at_ ha, rdG]
    refine Evl.some_bind ?_
    by_cases h : at_ < b.length
    · rw [if_pos h, if_pos h]; exact Evl.neg (by omega) (Evl.ret _)
    · rw [if_neg h, if_neg h]; exact Evl.pos rfl (Evl.ret _)
  | d + 1, at_, last, ps, i, h, h0, ha, hl, hl2, hp => by
    refine Evl.step (fun _ => post_Read.l0.eq_2 ..) (Evl.pos (by omega) (Evl.bind (ReadNumE b at_ hb ha hr) ?_))
    rw [rdG]
    by_cases he : (rdN (b.drop at_) 9 0 0).1 = 0
    · have hf := (rdN_fits b hr at_ ha he).1
      rw [numA_ok _ _ _ he, if_pos he]
      refine Evl.pos rfl ?_
      simp only []
      have ew : wrap64 (wrap64 (1000 - last) - 1) = 999 - last := by rw [wN (n := 1000 - last) (by omega) (by omega), wN (by omega) (by omega)]; omega
      rw [ew]
      by_cases hv : ((rdN (b.drop at_) 9 0 0).2.1 : Int) ≥ 999 - last
      · rw [if_pos hv]; exact Evl.pos hv (Evl.ret _)
      · rw [if_neg hv]
        refine Evl.neg hv (Evl.pos (by omega) ?_)
        have ev : wrap64 (last + wrap64 (((rdN (b.drop at_) 9 0 0).2.1 : Int) + 1)) = last + ((rdN (b.drop at_) 9 0 0).2.1 + 1) := by
          rw [wN (n := ((rdN (b.drop at_) 9 0 0).2.1 : Int) + 1) (by omega) (by omega), wN (by omega) (by omega)]
        rw [ev, wN (n := i + 1) (by omega) (by omega)]
        exact readG_loop b hb hr cnt hc d (at_ + (rdN (b.drop at_) 9 0 0).2.2) _ _ (i + 1) (by omega) (by omega) hf (by omega) (by omega) (by rw [List.length_append, List.length_singleton]; omega)
    · rw [numA_no _ _ _ he, if_neg he]
      refine Evl.neg he ?_
      simp only []
      rw [doneE _ _ _ he]
      exact Evl.some_bind (Evl.neg he (Evl.ret _))
theorem readE (b : List Int) (hb : b.length ≤ 1000000) (hr : ∀ x ∈ b, 0 ≤ x ∧ x < 256) : Evl (fun k => post_Read.f k b) (readL b) := by
  unfold post_Read.f
  have h1 := ReadNumE b 0 hb (by omega) hr
  have h2 := rdN_fits b hr 0 (by omega)
  rw [List.drop_zero] at h1 h2
  refine Evl.bind h1 ?_
  unfold readL
  by_cases he : (rdN b 9 0 0).1 = 0
  · have hf := (h2 he).1
    rw [numA_ok _ _ _ he, if_pos he]
    refine Evl.pos rfl ?_
    simp only []
    by_cases hv : (rdN b 9 0 0).2.1 > 1000
    · rw [if_pos hv, decide_eq_true (show ((rdN b 9 0 0).2.1 : Int) > 1000 by omega)]
      exact Evl.step (fun _ => post_Read.j0.eq_2 ..) (Evl.pos rfl (Evl.ret _))
    · rw [if_neg hv, decide_eq_false (show ¬ ((rdN b 9 0 0).2.1 : Int) > 1000 by omega)]
      refine Evl.step (fun _ => post_Read.j0.eq_2 ..) (Evl.neg (by decide) ?_)
      have := readG_loop b hb hr ((rdN b 9 0 0).2.1 : Int) (by omega) (rdN b 9 0 0).2.1 (rdN b 9 0 0).2.2 (-1) [] 0 (by omega) (by omega) (by omega) (by omega) (by omega) (by simp)
      rw [show (((0 : Nat) : Int) + ((rdN b 9 0 0).2.2 : Int)) = ((rdN b 9 0 0).2.2 : Int) by omega]
      exact this
  · rw [numA_no _ _ _ he, if_neg he]
    refine Evl.neg he (Evl.step (fun _ => post_Read.j0.eq_2 ..) (Evl.neg (by decide) (Evl.step (fun _ => post_Read.l0.eq_2 ..) (Evl.neg (show ¬ (0 : Int) < 0 by decide) ?_))))
    simp only []
    rw [doneE _ _ _ he]
    exact Evl.some_bind (Evl.neg he (Evl.ret _))
theorem rdN_of (b t : List Int) (at_ g : Nat) (hg : g ≤ 4611686018427387904) (h : b.drop at_ = numE g ++ t) : rdN (b.drop at_) 9 0 0 = (0, g, (numE g).length) := by
  have h9 : (128 : Nat) ^ (8 + 1) = 9223372036854775808 := by decide
  have := rdN_num (b.drop at_) t 8 g 0 0 (by rw [List.drop_zero]; exact h) rfl (by omega) (.inr rfl) (by omega)
  rw [this, Nat.pow_zero, Nat.mul_one, Nat.zero_add, Nat.zero_add]
theorem rdG_write (b : List Int) : ∀ (l : List Int) (at_ : Nat) (last : Int) (ps : List Int), -1 ≤ last → last < 1000 → rightFrom last l = true → b.drop at_ = gapsE last l → rdG b l.length at_ last ps = (ps ++ l, 0)
  | [], at_, last, ps, _, _, _, h => by
    rw [gapsE] at h
    have : (b.drop at_).length = 0 := by rw [h]; rfl
    rw [List.length_drop] at this
    rw [List.length_nil, rdG, if_neg (by omega), List.append_nil]
  | x :: r, at_, last, ps, h0, h1, hr, h => by
    rw [rightFrom] at hr
    split at hr
    · cases hr
    split at hr
    · cases hr
    rw [gapsE] at h
    have e := rdN_of b _ at_ (x - last - 1).toNat (by omega) h
    rw [List.length_cons, rdG, e]
    simp only []
    rw [if_pos trivial, if_neg (by omega), show last + (((x - last - 1).toNat : Int) + 1) = x by omega]
    have hd : b.drop (at_ + (numE (x - last - 1).toNat).length) = gapsE x r := by
      rw [← List.drop_drop, h, List.drop_left]
    rw [rdG_write b r _ x (ps ++ [x]) (by omega) (by omega) hr hd, List.append_assoc]
    rfl
theorem right_len : ∀ (l : List Int) (last : Int), -1 ≤ last → last < 1000 → rightFrom last l = true → last + l.length ≤ 999
  | [], last, _, _, _ => by simp; omega
  | x :: r, last, h0, h1, hr => by
    rw [rightFrom] at hr
    split at hr
    · cases hr
    split at hr
    · cases hr
    have := right_len r x (by omega) (by omega) hr
    rw [List.length_cons]
    omega
theorem read_write (l : List Int) (h : rightFrom (-1) l = true) : readL (writeL l) = (l, 0) := by
  have hl := right_len l (-1) (by omega) (by omega) h
  have e := rdN_of (writeL l) (gapsE (-1) l) 0 l.length (by omega) (by rw [List.drop_zero]; rfl)
  rw [List.drop_zero] at e
  unfold readL
  rw [e]
  simp only []
  rw [if_pos trivial, if_neg (by omega)]
  refine rdG_write (writeL l) l _ (-1) [] (by omega) (by omega) h ?_
  unfold writeL
  rw [List.drop_left]
theorem rdG_any (b : List Int) (hr : ∀ x ∈ b, 0 ≤ x ∧ x < 256) : ∀ (d at_ : Nat) (last : Int) (ps : List Int), at_ ≤ b.length → -1 ≤ last → last < 1000 →
    (rdG b d at_ last ps).2 ≠ 0 ∧ (rdG b d at_ last ps).1 = [] ∨ (rdG b d at_ last ps).2 = 0 ∧ ∃ l, (rdG b d at_ last ps).1 = ps ++ l ∧ l.length = d ∧ rightFrom last l = true ∧ b.drop at_ = gapsE last l
  | 0, at_, last, ps, ha, h0, h1 => by
    rw [rdG]
    by_cases h : at_ < b.length
    · rw [if_pos h]; exact .inl ⟨by decide, rfl⟩
    · rw [if_neg h]; exact .inr ⟨rfl, [], by simp, rfl, rfl, by rw [gapsE]; exact List.drop_eq_nil_of_le (by omega)⟩
  | d + 1, at_, last, ps, ha, h0, h1 => by
    rw [rdG]
    by_cases he : (rdN (b.drop at_) 9 0 0).1 = 0
    · rw [if_pos he]
      have hf := rdN_fits b hr at_ ha he
      by_cases hv : ((rdN (b.drop at_) 9 0 0).2.1 : Int) ≥ 999 - last
      · rw [if_pos hv]; exact .inl ⟨by decide, rfl⟩
      · rw [if_neg hv]
        rcases rdG_any b hr d (at_ + (rdN (b.drop at_) 9 0 0).2.2) (last + ((rdN (b.drop at_) 9 0 0).2.1 + 1)) (ps ++ [last + ((rdN (b.drop at_) 9 0 0).2.1 + 1)]) hf.1 (by omega) (by omega) with h | ⟨h2, l, h3, h4, h5, h6⟩
        · exact .inl h
        · refine .inr ⟨h2, (last + ((rdN (b.drop at_) 9 0 0).2.1 + 1)) :: l, by rw [h3]; simp, by rw [List.length_cons, h4], ?_, ?_⟩
          · rw [rightFrom, if_neg (by omega), if_neg (by omega)]; exact h5
          · rw [gapsE, show (last + (((rdN (b.drop at_) 9 0 0).2.1 : Int) + 1) - last - 1).toNat = (rdN (b.drop at_) 9 0 0).2.1 by omega, ← h6]
            exact hf.2
    · rw [if_neg he]; exact .inl ⟨he, rfl⟩
theorem read_any (b : List Int) (hr : ∀ x ∈ b, 0 ≤ x ∧ x < 256) : (readL b).2 ≠ 0 ∧ (readL b).1 = [] ∨ (readL b).2 = 0 ∧ rightFrom (-1) (readL b).1 = true ∧ writeL (readL b).1 = b := by
  have h2 := rdN_fits b hr 0 (by omega)
  rw [List.drop_zero] at h2
  unfold readL
  by_cases he : (rdN b 9 0 0).1 = 0
  · rw [if_pos he]
    have hf := h2 he
    by_cases hv : (rdN b 9 0 0).2.1 > 1000
    · rw [if_pos hv]; exact .inl ⟨by decide, rfl⟩
    · rw [if_neg hv]
      rw [Nat.zero_add] at hf
      rcases rdG_any b hr (rdN b 9 0 0).2.1 (rdN b 9 0 0).2.2 (-1) [] hf.1 (by omega) (by omega) with h | ⟨h2, l, h3, h4, h5, h6⟩
      · exact .inl h
      · rw [List.nil_append] at h3
        refine .inr ⟨h2, by rw [h3]; exact h5, ?_⟩
        rw [h3]
        unfold writeL
        rw [h4, ← h6]
        exact hf.2.symm
  · rw [if_neg he]; exact .inl ⟨he, rfl⟩
/-- Are two lists the same? -/
theorem same_loop (a b : List Int) (hab : a.length = b.length) (ha : a.length ≤ 1000000000) : ∀ d i : Nat, i + d = a.length → Evl (fun k => rubrickref09_Same.l0 k a b (i : Int)) (decide (a.drop i = b.drop i))
  | 0, i, h => by
    refine Evl.step (fun _ => rubrickref09_Same.l0.eq_2 ..) (Evl.neg (by omega) (Evl.ret' ?_))
    rw [List.drop_eq_nil_of_le (by omega), List.drop_eq_nil_of_le (by omega)]; rfl
  | d + 1, i, h => by
    have hi : i < a.length := by omega
    have hj : i < b.length := by omega
    refine Evl.step (fun _ => rubrickref09_Same.l0.eq_2 ..) (Evl.pos (by omega) (Evl.pos (by omega) (Evl.pos (by omega) ?_)))
    rw [rdi a i hi, rdi b i hj, w1 i (by omega), List.drop_eq_getElem_cons hi, List.drop_eq_getElem_cons hj]
    by_cases he : a[i] = b[i]
    · refine Evl.pos he ((same_loop a b hab ha d (i + 1) (by omega)).cast ?_)
      exact decide_eq_decide.2 ⟨fun h => by rw [he, h], fun h => (List.cons.inj h).2⟩
    · refine Evl.neg he (Evl.ret' (decide_eq_false (fun h => he (List.cons.inj h).1)).symm)
theorem sameE (a b : List Int) (ha : a.length ≤ 1000000000) : Evl (fun k => rubrickref09_Same.f k a b) (decide (a = b)) := by
  unfold rubrickref09_Same.f
  by_cases h : a.length = b.length
  · exact Evl.pos (by omega) (same_loop a b h ha a.length 0 (by omega))
  · refine Evl.neg (by omega) (Evl.ret' (decide_eq_false (fun e => h (by rw [e]))).symm)
theorem up9 {α : Type} {f : Nat → Option α} (hm : ∀ k, LeO (f k) (f (k + 1))) {K : Nat} {r : α} (h : f K = some r) : ∀ k, K ≤ k → f k = some r := by
  intro k hk
  obtain ⟨d, rfl⟩ : ∃ d, k = K + d := ⟨k - K, by omega⟩
  clear hk
  induction d with
  | zero => exact h
  | succ d ih => exact hm _ _ ih
theorem knows09E : Evl (fun k => (rubricklaw09_knows.f k).bind fun t => some t) true :=
  Evl.bind (f := fun k => rubricklaw09_knows.f k) ⟨_, up9 rubricklaw09_knows.mono rubricklaw09_knows.sure⟩ (Evl.ret _)
end Go.Proofs.Ytgcfhgkhokljcaa.PurePost

import Derived.Test.YtgcfhgkhokljcaaZbPurePost
namespace Go.Proofs.Ytgcfhgkhokljcaa.PurePost
open Go.RowKit Go.Proofs.Ytgcfhgkhokljcaa.PA Go.Proofs.Ytgcfhgkhokljcaa.Evl Go.Proofs.YtgcfhgkhokljcaaW.PrintWords Go.Proofs.YtgcfhgkhokljcaaW.PrintLast Go.Proofs.YtgcfhgkhokljcaaW.PrintMore
set_option linter.unusedVariables false
/-- A number read: the error, the number, where it ends; c more bytes may come. -/
def rdN (rest : List Int) : Nat → Nat → Nat → Int × Nat × Nat
  | 0, _, _ => (2, 0, 0)
  | c + 1, v, n => match rest[n]? with
    | none => (4, 0, 0)
    | some x => if x < 128 then (if x = 0 ∧ 1 ≤ n then (2, 0, 0) else if v + x.toNat * 128 ^ n > 4611686018427387904 then (2, 0, 0) else (0, v + x.toNat * 128 ^ n, n + 1)) else rdN rest c (v + (x.toNat % 128) * 128 ^ n) (n + 1)
theorem and127 : ∀ n : Fin 256, Go.bits .and .u8 (n.val : Int) 127 = ((n.val % 128 : Nat) : Int) := by decide +kernel
theorem wraps63 (n : Int) (h₀ : 0 ≤ n) (h₁ : n < 2 ^ 63) : IntKind.i64.wrap n = n := by rw [IntKind.wrap_i64]; omega
theorem or_comm64 (x y : Int) : Go.bits .or .i64 x y = Go.bits .or .i64 y x := by
  unfold Go.bits
  simp only []
  rw [BitVec.or_comm]
theorem pow128 (n : Nat) : (128 : Nat) ^ n = 2 ^ (7 * n) := by rw [Nat.pow_mul]
/-- The next seven bits, put ahead of those that were read. -/
theorem put7 (v y n : Nat) (hn : n ≤ 8) (hv : v < 128 ^ n) (hy : y < 128) : Go.bits .or .i64 (v : Int) (shl .i64 (wrap64 (y : Int)) (wrap64 (7 * (n : Int)))) = ((v + y * 128 ^ n : Nat) : Int) := by
  have h9 : (128 : Nat) ^ 9 = 9223372036854775808 := by decide
  have hle : (128 : Nat) ^ (n + 1) ≤ 128 ^ 9 := Nat.pow_le_pow_right (by decide) (by omega)
  have hs : (128 : Nat) ^ (n + 1) = 128 ^ n * 128 := Nat.pow_succ ..
  have hmul : y * 128 ^ n + 128 ^ n ≤ 128 ^ (n + 1) := by
    rw [hs, Nat.mul_comm (128 ^ n) 128, ← Nat.succ_mul]
    exact Nat.mul_le_mul_right _ hy
  rw [wN (by omega) (by omega), wN (by omega) (by omega)]
  have e1 : shl .i64 (y : Int) (7 * (n : Int)) = ((y * 128 ^ n : Nat) : Int) := by
    unfold shl
    have e2 : min (7 * (n : Int)).toNat IntKind.i64.bits = 7 * n := by
      have : IntKind.i64.bits = 64 := rfl
      omega
    rw [e2, show (y : Int) * 2 ^ (7 * n) = ((y * 2 ^ (7 * n) : Nat) : Int) by simp, ← pow128]
    exact wraps63 _ (by omega) (by have : (2 : Int) ^ 63 = 9223372036854775808 := by decide
                                   omega)
  rw [e1, or_comm64, bits_join .i64 63 (by decide) wraps63 (7 * n) _ _ (by omega) ?_ ?_ (by omega) ?_ ?_]
  · omega
  · rw [show ((2 : Int) ^ (7 * n)) = ((2 ^ (7 * n) : Nat) : Int) by simp, ← pow128]
    have : (y * 128 ^ n) % 128 ^ n = 0 := Nat.mul_mod_left _ _
    omega
  · have : (2 : Int) ^ 63 = 9223372036854775808 := by decide
    omega
  · rw [show ((2 : Int) ^ (7 * n)) = ((2 ^ (7 * n) : Nat) : Int) by simp, ← pow128]; omega
  · have : (2 : Int) ^ 63 = 9223372036854775808 := by decide
    omega
theorem badE (b : List Int) (at_ e x : Int) (r : List Int × Int × Int × Int) (h : (b, at_, x, (0 : Int)) = r) : Evl (fun _ => (code_bad.f b at_ e x).bind fun bt => some (bt.1, bt.2.1, bt.2.2, (0 : Int))) r := by
  unfold code_bad.f
  exact Evl.ret' h
/-- What ReadNum answers from a place on. -/
def numA (b : List Int) (at_ : Int) (r : Int × Nat × Nat) : List Int × Int × Int × Int := if r.1 = 0 then (b, at_ + (r.2.2 : Int), 0, (r.2.1 : Int)) else (b, at_, r.1, 0)
theorem read_loop (rest b : List Int) (at_ : Int) (h0 : 0 ≤ at_) (h1 : at_ ≤ 1000000000) (hr : ∀ x ∈ rest, 0 ≤ x ∧ x < 256) : ∀ (c v n : Nat), c + n = 9 → n ≤ rest.length → v < 128 ^ n → Evl (fun k => code_ReadNum.l0 k (v : Int) (n : Int) rest b at_ 0) (numA b at_ (rdN rest c v n))
  | 0, v, n, h, hn, hv => by
    obtain rfl : n = 9 := by omega
    exact Evl.step (fun _ => code_ReadNum.l0.eq_2 ..) (Evl.pos rfl (badE _ _ _ _ _ rfl))
  | c + 1, v, n, h, hn, hv => by
    refine Evl.step (fun _ => code_ReadNum.l0.eq_2 ..) (Evl.neg (by omega) ?_)
    by_cases hl : (n : Int) = (rest.length : Int)
    · have : rest[n]? = none := List.getElem?_eq_none (by omega)
      rw [rdN, this]
      exact Evl.pos hl (badE _ _ _ _ _ rfl)
    have hlt : n < rest.length := by omega
    refine Evl.neg hl (Evl.pos (by omega) (Evl.pos (by omega) (Evl.pos (by rw [wN (by omega) (by omega)]; omega) ?_)))
    have hx := hr _ (List.getElem_mem hlt)
    have ex : rest[n]? = some rest[n] := List.getElem?_eq_getElem hlt
    rw [rdN]
    simp only [ex]
    rw [rdi rest n hlt, w1 n (by omega)]
    obtain ⟨x, hxe⟩ : ∃ x : Nat, rest[n] = (x : Int) := ⟨rest[n].toNat, by omega⟩
    rw [hxe] at hx ⊢
    have ea := and127 ⟨x, by omega⟩
    simp only at ea
    rw [ea, put7 v (x % 128) n (by omega) hv (Nat.mod_lt _ (by decide))]
    simp only [Int.toNat_natCast]
    by_cases hs : (x : Int) < 128
    · have hm : x % 128 = x := Nat.mod_eq_of_lt (by omega)
      rw [hm]
      refine Evl.pos hs ?_
      simp only [if_pos hs]
      have tail : ¬ ((x : Int) = 0 ∧ 1 ≤ n) → Evl (fun k => if ((v + x * 128 ^ n : Nat) : Int) > 4611686018427387904 then (code_bad.f b at_ 0 2).bind fun bt => some (bt.1, bt.2.1, bt.2.2, (0 : Int)) else some (b, wrap64 (at_ + ((n + 1 : Nat) : Int)), 0, ((v + x * 128 ^ n : Nat) : Int)))
          (numA b at_ (if v + x * 128 ^ n > 4611686018427387904 then (2, 0, 0) else (0, v + x * 128 ^ n, n + 1))) := by
        intro _
        by_cases hb : v + x * 128 ^ n > 4611686018427387904
        · rw [if_pos hb]
          exact Evl.pos (by omega) (badE _ _ _ _ _ rfl)
        · rw [if_neg hb]
          refine Evl.neg (by omega) (Evl.ret' ?_)
          rw [wN (by omega) (by omega)]
          rfl
      by_cases h00 : (x : Int) = 0
      · refine Evl.pos h00 ?_
        by_cases hn1 : 1 ≤ n
        · rw [if_pos (show (x : Int) = 0 ∧ 1 ≤ n from ⟨h00, hn1⟩)]
          exact Evl.pos (by omega) (badE _ _ _ _ _ rfl)
        · rw [if_neg (show ¬ ((x : Int) = 0 ∧ 1 ≤ n) by omega)]
          exact Evl.neg (by omega) (tail (by omega))
      · rw [if_neg (show ¬ ((x : Int) = 0 ∧ 1 ≤ n) by omega)]
        exact Evl.neg h00 (tail (by omega))
    · refine Evl.neg hs ?_
      simp only [if_neg hs]
      refine read_loop rest b at_ h0 h1 hr c _ (n + 1) (by omega) (by omega) ?_
      have h2 : x % 128 < 128 := Nat.mod_lt _ (by decide)
      have h3 : x % 128 * 128 ^ n + 128 ^ n ≤ 128 * 128 ^ n := by rw [← Nat.succ_mul]; exact Nat.mul_le_mul_right _ h2
      rw [Nat.pow_succ, Nat.mul_comm (128 ^ n) 128]
      omega
theorem ReadNumE (b : List Int) (i : Nat) (hb : b.length ≤ 1000000) (hi : i ≤ b.length) (hr : ∀ x ∈ b, 0 ≤ x ∧ x < 256) : Evl (fun k => code_ReadNum.f k b (i : Int) 0) (numA b (i : Int) (rdN (b.drop i) 9 0 0)) := by
  unfold code_ReadNum.f code_open.f
  rw [if_pos rfl, if_neg (by omega), if_neg (by omega)]
  refine Evl.some_bind ?_
  refine Evl.pos rfl (Evl.pos (by simp only []; omega) (Evl.pos (by simp only []; omega) ?_))
  exact read_loop (b.drop i) b (i : Int) (by omega) (by omega) (fun x hx => hr x (List.mem_of_mem_drop hx)) 9 0 0 rfl (by omega) (by simp)
/-- What was written as a number is read so. -/
theorem rdN_num (rest t : List Int) : ∀ (c hi v n : Nat), rest.drop n = numE hi ++ t → c + 1 + n = 9 → hi < 128 ^ (c + 1) → (0 < hi ∨ n = 0) → v + hi * 128 ^ n ≤ 4611686018427387904 → rdN rest (c + 1) v n = (0, v + hi * 128 ^ n, n + (numE hi).length)
  | c, hi, v, n, hd, hc, hh, hp, hb => by
    have hx : rest[n]? = (numE hi ++ t)[0]? := by rw [← hd, List.getElem?_drop, Nat.add_zero]
    by_cases hs : hi < 128
    · rw [numE_small hs] at hx ⊢
      rw [rdN, hx]
      simp only [List.cons_append, List.nil_append, List.getElem?_cons_zero]
      rw [if_pos (by omega), if_neg (by omega), Int.toNat_natCast, if_neg (by omega)]
      rfl
    · rw [numE_big hs] at hx hd ⊢
      rw [rdN, hx]
      simp only [List.cons_append, List.getElem?_cons_zero]
      rw [if_neg (by omega), Int.toNat_natCast, show (hi % 128 + 128) % 128 = hi % 128 by omega]
      cases c with
      | zero => simp at hh; omega
      | succ c =>
        have e : hi % 128 * 128 ^ n + hi / 128 * 128 ^ (n + 1) = hi * 128 ^ n := by
          rw [Nat.pow_succ, Nat.mul_comm (128 ^ n) 128, ← Nat.mul_assoc, ← Nat.add_mul]
          congr 1
          omega
        have hd2 : rest.drop (n + 1) = numE (hi / 128) ++ t := by
          rw [← List.drop_drop, hd]; rfl
        have := rdN_num rest t c (hi / 128) (v + hi % 128 * 128 ^ n) (n + 1) hd2 (by omega) (by rw [Nat.pow_succ] at hh; omega) (.inl (by omega)) (by omega)
        rw [this, List.length_cons, ← e]
        congr 1
        congr 1
        · omega
        · omega
/-- What is read as a number was written so. -/
theorem rdN_back (rest : List Int) (hr : ∀ x ∈ rest, 0 ≤ x ∧ x < 256) : ∀ (c v n w m : Nat), rdN rest c v n = (0, w, m) → ∃ hi, w = v + hi * 128 ^ n ∧ rest.drop n = numE hi ++ rest.drop m ∧ m = n + (numE hi).length ∧ m ≤ rest.length ∧ w ≤ 4611686018427387904 ∧ (0 < hi ∨ n = 0)
  | 0, v, n, w, m, h => by simp [rdN] at h
  | c + 1, v, n, w, m, h => by
    rw [rdN] at h
    cases hx : rest[n]? with
    | none => rw [hx] at h; simp at h
    | some x =>
      obtain ⟨hn, hxe⟩ := List.getElem?_eq_some_iff.1 hx
      rw [hx] at h
      simp only at h
      have hxr : 0 ≤ x ∧ x < 256 := hxe ▸ hr _ (List.getElem_mem hn)
      have hd : rest.drop n = x :: rest.drop (n + 1) := by rw [List.drop_eq_getElem_cons hn, hxe]
      by_cases hs : x < 128
      · rw [if_pos hs] at h
        split at h
        · simp at h
        split at h
        · simp at h
        simp only [Prod.mk.injEq, true_and] at h
        obtain ⟨rfl, rfl⟩ := h
        refine ⟨x.toNat, rfl, ?_, ?_, by omega, by omega, by omega⟩
        · rw [hd, numE_small (by omega), show ((x.toNat : Nat) : Int) = x by omega]; rfl
        · rw [numE_small (by omega)]; rfl
      · rw [if_neg hs] at h
        obtain ⟨hi, e1, e2, e3, e4, e5, e6⟩ := rdN_back rest hr c _ _ w m h
        have e6' : 0 < hi := by omega
        have eb := numE_big (v := x.toNat % 128 + 128 * hi) (by omega)
        refine ⟨x.toNat % 128 + 128 * hi, ?_, ?_, ?_, e4, e5, .inl (by omega)⟩
        · rw [e1, Nat.pow_succ, Nat.add_mul, Nat.mul_comm (128 ^ n) 128, ← Nat.mul_assoc, Nat.mul_comm hi 128]
          omega
        · rw [hd, e2, eb, show (x.toNat % 128 + 128 * hi) / 128 = hi by omega, show (((x.toNat % 128 + 128 * hi) % 128 + 128 : Nat) : Int) = x by omega]
          rfl
        · rw [eb, show (x.toNat % 128 + 128 * hi) / 128 = hi by omega, List.length_cons]
          omega
end Go.Proofs.Ytgcfhgkhokljcaa.PurePost

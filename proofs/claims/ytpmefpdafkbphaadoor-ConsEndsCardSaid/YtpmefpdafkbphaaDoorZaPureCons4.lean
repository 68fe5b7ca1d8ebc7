import Derived.Test.YtpmefpdafkbphaaDoorZaPureCons3
namespace Go.Proofs.YtpmefpdafkbphaaDoor.PureCons
open Go.RowKit Go.Proofs.YtpmefpdafkbphaaDoor.HSha Go.Proofs.YtpmefpdafkbphaaDoor.PS Go.Proofs.YtpmefpdafkbphaaDoor.PB Go.Proofs.YtpmefpdafkbphaaDoor.PC Go.Proofs.YtpmefpdafkbphaaDoor.PP Go.Proofs.YtpmefpdafkbphaaDoor.HNode Go.Proofs.YtpmefpdafkbphaaDoor.HProve Go.Proofs.YtpmefpdafkbphaaDoor.PureS Go.Proofs.YtpmefpdafkbphaaDoor.PureO Go.Proofs.YtpmefpdafkbphaaDoor.PureTree Go.Proofs.YtpmefpdafkbphaaDoor.Thy Go.Proofs.YtpmefpdafkbphaaDoor.Evl Go.Proofs.YtpmefpdafkbphaaDoorW.PrintWords Go.Proofs.YtpmefpdafkbphaaDoorW.PrintLast Go.Proofs.YtpmefpdafkbphaaDoorW.PrintMore
set_option linter.unusedVariables false
theorem i64_and_nat (a b : Nat) (ha : a < 9223372036854775808) (hb : b < 9223372036854775808) : Go.bits .and .i64 (a : Int) (b : Int) = ((a &&& b : Nat) : Int) := by
  have key : (BitVec.ofInt 64 (a : Int) &&& BitVec.ofInt 64 (b : Int)).toNat = a &&& b := by
    rw [BitVec.toNat_and, BitVec.toNat_ofInt, BitVec.toNat_ofInt]
    have e : ∀ x : Nat, x < 9223372036854775808 → ((x : Int) % ((2 ^ 64 : Nat) : Int)).toNat = x := fun x hx => by omega
    rw [e a ha, e b hb]
  show IntKind.i64.wrap ((BitVec.ofInt 64 (a : Int) &&& BitVec.ofInt 64 (b : Int)).toNat : Nat) = _
  have hle : a &&& b ≤ a := Nat.and_le_left
  rw [key, IntKind.wrap_i64]
  omega
theorem pow2_test (m : Nat) (h0 : 1 ≤ m) (h1 : m ≤ 1099511627776) : Go.bits .and .i64 (m : Int) (wrap64 ((m : Int) - 1)) = 0 ↔ ∃ g, m = 2 ^ g := by
  rw [show wrap64 ((m : Int) - 1) = ((m - 1 : Nat) : Int) by rw [wN (by omega) (by omega)]; omega, i64_and_nat m (m - 1) (by omega) (by omega)]
  have := Nat.and_sub_one_eq_zero_iff_isPowerOfTwo (n := m) (by omega)
  constructor
  · intro h
    obtain ⟨g, hg⟩ := this.1 (by omega)
    exact ⟨g, hg⟩
  · rintro ⟨g, hg⟩
    have := this.2 ⟨g, hg⟩
    omega
/-- What Check answers. -/
def checkA (m n : Int) (one two : ByteArray) (p : List ByteArray) : Int :=
  if ¬ (0 ≤ m ∧ m ≤ n ∧ n ≤ 1099511627776 ∧ one.size = 32 ∧ two.size = 32) then 1
  else if okD p = false then 6
  else if m = 0 then (if p = [] ∧ one.toList = (shaSum []).toList then 0 else 6)
  else if (rts m.toNat n.toNat true one p).2.2 = true ∧ (rts m.toNat n.toNat true one p).1.toList = one.toList ∧ (rts m.toNat n.toNat true one p).2.1.toList = two.toList then 0 else 6
theorem tail_check (a0 a1 : Int) (one two : ByteArray) (p : List ByteArray) (r q : ByteArray × ByteArray × Bool) (hp : p ≠ []) (hq : Evl (fun k => cons_climb.f k a0 a1 p) q) (he : Eqv r q) :
    Evl (fun k => cons_Check.j1 k a0 a1 one two p) (if r.2.2 = true ∧ r.1.toList = one.toList ∧ r.2.1.toList = two.toList then 0 else 6) := by
  refine Evl.step (fun _ => cons_Check.j1.eq_2 ..) (Evl.neg (fun h => hp (List.eq_nil_of_length_eq_zero (by omega))) (Evl.bind hq ?_))
  obtain ⟨h1, h2⟩ := he
  by_cases hr : r.2.2 = true
  · obtain ⟨h3, h4⟩ := h2 hr
    refine Evl.pos (by rw [h1]; exact hr) ?_
    rw [h3, h4]
    by_cases e1 : r.1.toList = one.toList
    · refine Evl.pos e1 ?_
      by_cases e2 : r.2.1.toList = two.toList
      · exact (Evl.pos e2 (Evl.ret _)).cast (if_pos ⟨hr, e1, e2⟩).symm
      · exact (Evl.neg e2 (Evl.ret _)).cast (if_neg (fun h => e2 h.2.2)).symm
    · exact (Evl.neg e1 (Evl.ret _)).cast (if_neg (fun h => e1 h.2.1)).symm
  · exact (Evl.neg (by rw [h1]; exact hr) (Evl.ret _)).cast (if_neg (fun h => hr h.1)).symm
theorem CheckE (m n : Int) (one two : ByteArray) (p : List ByteArray) (hp : p.length ≤ 1000000) : Evl (fun k => cons_Check.f k m n one two p) (checkA m n one two p) := by
  have out : Evl (fun k => cons_Check.j0 k m n one two p true) 1 := Evl.step (fun _ => cons_Check.j0.eq_2 ..) (Evl.pos rfl (Evl.ret _))
  unfold cons_Check.f checkA
  by_cases h1 : m < 0
  · exact (Evl.pos h1 out).cast (if_pos (fun h => by omega)).symm
  refine Evl.neg h1 ?_
  by_cases h2 : n < m
  · exact (Evl.pos h2 out).cast (if_pos (fun h => by omega)).symm
  refine Evl.neg h2 ?_
  by_cases h3 : n > 1099511627776
  · exact (Evl.pos h3 out).cast (if_pos (fun h => by omega)).symm
  refine Evl.neg h3 (Evl.bind (callE [one, two] (by simp)) ?_)
  by_cases h4 : one.size = 32 ∧ two.size = 32
  rotate_left
  · rw [if_pos (fun h => h4 h.2.2.2)]
    have : okD [one, two] = false := by
      rw [Bool.eq_false_iff]
      intro h
      exact h4 ⟨okD_mem h (by simp), okD_mem h (by simp)⟩
    rw [this]
    exact out
  have ok2 : okD [one, two] = true := by simp [okD, h4.1, h4.2]
  rw [ok2, if_neg (fun h => h ⟨by omega, by omega, by omega, h4.1, h4.2⟩)]
  refine Evl.step (fun _ => cons_Check.j0.eq_2 ..) (Evl.neg (by decide) (Evl.bind (callE p (by omega)) ?_))
  by_cases ok : okD p = true
  rotate_left
  · exact (Evl.neg ok (Evl.ret _)).cast (if_pos (Bool.eq_false_iff.2 ok)).symm
  refine Evl.pos ok ?_
  rw [if_neg (show ¬ okD p = false by rw [ok]; decide)]
  by_cases h5 : m = 0
  · refine Evl.pos h5 ?_
    rw [if_pos h5]
    by_cases h6 : p = []
    · subst h6
      refine Evl.pos rfl (Evl.bind (sumE [] (by simp)) ?_)
      by_cases h7 : one.toList = (shaSum []).toList
      · exact (Evl.pos h7 (Evl.ret _)).cast (if_pos ⟨rfl, h7⟩).symm
      · exact (Evl.neg h7 (Evl.ret _)).cast (if_neg (fun h => h7 h.2)).symm
    · exact (Evl.neg (fun h => h6 (List.eq_nil_of_length_eq_zero (by omega))) (Evl.ret _)).cast (if_neg (fun h => h6 h.1)).symm
  refine Evl.neg h5 ?_
  rw [if_neg h5]
  obtain ⟨a, rfl⟩ : ∃ a : Nat, m = (a : Int) := ⟨m.toNat, by omega⟩
  obtain ⟨b, rfl⟩ : ∃ b : Nat, n = (b : Int) := ⟨n.toNat, by omega⟩
  rw [Int.toNat_natCast, Int.toNat_natCast]
  by_cases h6 : a = b
  · subst h6
    refine Evl.pos rfl ?_
    have e : rts a a true one p = (one, one, p.isEmpty) := by unfold rts; rw [roots_same]; rfl
    rw [e]
    by_cases h7 : p = []
    · subst h7
      refine Evl.pos rfl ?_
      by_cases h8 : one.toList = two.toList
      · exact (Evl.pos h8 (Evl.ret _)).cast (if_pos ⟨rfl, rfl, h8⟩).symm
      · exact (Evl.neg h8 (Evl.ret _)).cast (if_neg (fun h => h8 h.2.2)).symm
    · exact (Evl.neg (fun h => h7 (List.eq_nil_of_length_eq_zero (by omega))) (Evl.ret _)).cast (if_neg (fun h => h7 (by simpa using h.1))).symm
  refine Evl.neg (by omega) ?_
  by_cases h7 : ∃ g, a = 2 ^ g
  · refine Evl.pos ((pow2_test a (by omega) (by omega)).2 h7) (Evl.some_bind (Evl.pos (by simp only [List.length_singleton]; omega) ?_))
    obtain ⟨g, hg⟩ := h7
    have hc := climbE a b (by omega) (by omega) (by omega) one p (by omega) h4.1 ok
    have he := climb_whole nodeD E0 one g b p (by omega)
    rw [← hg] at he
    exact tail_check _ _ one two (one :: p) (rts a b true one p) _ (by simp) hc he
  · refine Evl.neg (fun h => h7 ((pow2_test a (by omega) (by omega)).1 h)) ?_
    have hnp : ∀ g, a ≠ 2 ^ g := fun g e => h7 ⟨g, e⟩
    cases p with
    | nil =>
      have e : (rts a b true one []).2.2 = false := by unfold rts; rw [roots_nil nodeD E0 (by omega)]
      exact (Evl.step (fun _ => cons_Check.j1.eq_2 ..) (Evl.pos rfl (Evl.ret _))).cast (if_neg (fun h => by rw [e] at h; exact absurd h.1 (by decide))).symm
    | cons x q =>
      have okq : okD q = true := by simp only [okD, List.all_cons, Bool.and_eq_true] at ok ⊢; exact ok.2
      have hx : x.size = 32 := okD_mem ok (by simp)
      have hc := climbE a b (by omega) (by omega) (by omega) x q (by simp only [List.length_cons] at hp; omega) hx okq
      have he := climb_roots nodeD E0 one x b a q (by omega) (.inl (by omega))
      rw [← roots_np nodeD E0 one hnp b (x :: q) (by omega) (by omega)] at he
      exact tail_check _ _ one two (x :: q) (rts a b true one (x :: q)) _ (by simp) hc he
end Go.Proofs.YtpmefpdafkbphaaDoor.PureCons

/- Clashes in plain Lean. -/
import Derived.Test.YtjcfimnijpcjmaaDoorPT
import Derived.Test.YtjcfimnijpcjmaaDoorPureS
import Derived.Test.YtjcfimnijpcjmaaDoorPureR
namespace Go.Proofs.YtjcfimnijpcjmaaDoor.PureT
open Go.RowKit Go.Proofs.YtjcfimnijpcjmaaDoor.HSha Go.Proofs.YtjcfimnijpcjmaaDoor.PS Go.Proofs.YtjcfimnijpcjmaaDoor.PR Go.Proofs.YtjcfimnijpcjmaaDoor.PT Go.Proofs.YtjcfimnijpcjmaaDoor.PureS Go.Proofs.YtjcfimnijpcjmaaDoor.PureR Go.Proofs.YtjcfimnijpcjmaaDoorW.PrintWords Go.Proofs.YtjcfimnijpcjmaaDoorW.PrintLast
theorem clashF (k : Nat) (a b : List Int) (ha : ∀ x ∈ a, 0 ≤ x ∧ x < 256) (hb : ∀ x ∈ b, 0 ≤ x ∧ x < 256) (h1 : a.length ≤ 1000000000000) (h2 : b.length ≤ 1000000000000) (k1 : a.length + 300 ≤ k) (k2 : b.length + 300 ≤ k) :
    rubrickref03_Clash.f k a b = some (isB a b) := by
  unfold rubrickref03_Clash.f isB
  rw [refF a ha h1 k k1, refF b hb h2 k k2]
  simp only [Option.bind_some]
  by_cases h : (shaSum a).toList = (shaSum b).toList
  · rw [if_pos h, beq_iff_eq.mpr h, Bool.and_true]; rfl
  · rw [if_neg h, beq_eq_false_iff_ne.mpr h, Bool.and_false]
theorem betweenF (a b : List Int) (h1 : a.length ≤ 1000000000000) (h2 : b.length ≤ 1000000000000) : seal_Between.f a b = some (if isB a b = true then (a, b, true) else ([], [], false)) := by
  unfold seal_Between.f
  simp only [Option.bind_some, List.nil_append, List.length_nil, Nat.zero_add]
  rw [if_pos (by omega), if_pos (by omega), isF a b h1 h2]
  simp only [Option.bind_some]
  split <;> rfl
theorem bytes_wf {l : List Int} (h : ∀ x ∈ l, (Lit.int .u8 x).wf = true) : ∀ x ∈ l, 0 ≤ x ∧ x < 256 := by
  intro x hx
  have := h x hx
  simp [Lit.wf, IntKind.min, IntKind.max, IntKind.signed, IntKind.bits] at this
  omega
theorem bytesF (a0 : Int) (h0 : 0 ≤ a0 ∧ a0 < 256) (l : List Int) (hl : l.length ≤ 1000000000000) (K : Nat) : rubrickref03_Bytes.f (l.length + 1 + K) a0 l = some (a0 :: l) := by
  have key : ∀ n, n ≤ l.length → rubrickref03_Bytes.l0 (n + 1 + K) l (a0 :: l.take (l.length - n)) ((l.length - n : Nat) : Int) = some (a0 :: l) := by
    intro n
    induction n with
    | zero =>
      intro _
      rw [show 0 + 1 + K = K + 1 by omega]
      simp only [rubrickref03_Bytes.l0, Nat.sub_zero, List.take_length]
      rw [if_neg (by omega)]
    | succ n ih =>
      intro hn
      obtain ⟨m, hm⟩ : ∃ m, l.length - (n + 1) = m := ⟨_, rfl⟩
      have ih := ih (by omega)
      rw [show l.length - n = m + 1 by omega] at ih
      rw [hm, show n + 1 + 1 + K = (n + 1 + K) + 1 by omega]
      have e : wrap64 ((m : Int) + 1) = ((m + 1 : Nat) : Int) := by unfold wrap64; omega
      have r : rd l (m : Int) = l[m]'(by omega) := by unfold rd; rw [Int.toNat_natCast, List.getD_eq_getElem?_getD, List.getElem?_eq_getElem (by omega)]; rfl
      simp only [rubrickref03_Bytes.l0, e, r]
      rw [if_pos (by omega), if_pos (by omega), if_pos (by simp; omega), List.cons_append, ← List.take_succ_eq_append_getElem (by omega)]
      exact ih
  have := key l.length (Nat.le_refl _)
  rw [Nat.sub_self] at this
  unfold rubrickref03_Bytes.f
  rw [Int.emod_eq_of_lt h0.1 h0.2]
  exact this
theorem ofF (k : Nat) (a0 : Int) (h0 : 0 ≤ a0 ∧ a0 < 256) (l : List Int) (hb : ∀ x ∈ l, 0 ≤ x ∧ x < 256) (hl : l.length ≤ 100000000000) (hk : l.length + 301 ≤ k) : rubrickref03_Of.f k a0 l = some (shaSum (a0 :: l)) := by
  obtain ⟨K, rfl⟩ : ∃ K, k = l.length + 1 + K := ⟨k - (l.length + 1), by omega⟩
  unfold rubrickref03_Of.f
  rw [bytesF a0 h0 l (by omega) K]
  simp only [Option.bind_some]
  rw [refF (a0 :: l) (by
    intro x hx
    rcases List.mem_cons.1 hx with rfl | hx
    · exact h0
    · exact hb x hx) (by simp; omega) _ (by simp only [List.length_cons]; omega)]
  rfl
end Go.Proofs.YtjcfimnijpcjmaaDoor.PureT

import Derived.Test.YtgcfhgkhokljcaaDoorZdPT
import Derived.Test.YtgcfhgkhokljcaaDoorZdHNode
import Derived.Test.YtgcfhgkhokljcaaDoorZdPureS
import Derived.Test.YtgcfhgkhokljcaaDoorZdPureR
import Derived.Test.YtgcfhgkhokljcaaDoorZdEvl
namespace Go.Proofs.YtgcfhgkhokljcaaDoor.PureO
open Go.RowKit Go.Proofs.YtgcfhgkhokljcaaDoor.HSha Go.Proofs.YtgcfhgkhokljcaaDoor.PS Go.Proofs.YtgcfhgkhokljcaaDoor.PR Go.Proofs.YtgcfhgkhokljcaaDoor.PT Go.Proofs.YtgcfhgkhokljcaaDoor.HNode Go.Proofs.YtgcfhgkhokljcaaDoor.PureS Go.Proofs.YtgcfhgkhokljcaaDoor.PureR Go.Proofs.YtgcfhgkhokljcaaDoor.Evl Go.Proofs.YtgcfhgkhokljcaaDoorW.PrintWords Go.Proofs.YtgcfhgkhokljcaaDoorW.PrintLast
theorem bytesF (a0 : Int) (h0 : 0 ≤ a0 ∧ a0 < 256) (l : List Int) (hl : l.length ≤ 1000000000000) (K : Nat) : rubrickref03_Bytes.f (l.length + 1 + K) a0 l = some (a0 :: l) := by
  have key : ∀ n, n ≤ l.length → rubrickref03_Bytes.l0 (n + 1 + K) l (a0 :: l.take (l.length - n)) ((l.length - n : Nat) : Int) = some (a0 :: l) := by
    intro n
    induction n with
    | zero =>
      intro _
      rw [show 0 + 1 + K = K + 1 by omega]
      simp only [rubrickref03_Bytes.l0, Nat.sub_zero, List.take_length]
      rw [if_neg (by omega)]
    | succ n ih =>
      intro hn
      obtain ⟨m, hm⟩ : ∃ m, l.length - (n + 1) = m := ⟨_, rfl⟩
      have ih := ih (by omega)
      rw [show l.length - n = m + 1 by omega] at ih
      rw [hm, show n + 1 + 1 + K = (n + 1 + K) + 1 by omega]
      have e : wrap64 ((m : Int) + 1) = ((m + 1 : Nat) : Int) := by unfold wrap64; omega
      have r : rd l (m : Int) = l[m]'(by omega) := by unfold rd; rw [Int.toNat_natCast, List.getD_eq_getElem?_getD, List.getElem?_eq_getElem (by omega)]; rfl
      simp only [rubrickref03_Bytes.l0, e, r]
      rw [if_pos (by omega), if_pos (by omega), if_pos (by simp; omega), List.cons_append, ← List.take_succ_eq_append_getElem (by omega)]
      exact ih
  have := key l.length (Nat.le_refl _)
  rw [Nat.sub_self] at this
  unfold rubrickref03_Bytes.f
  rw [Int.emod_eq_of_lt h0.1 h0.2]
  exact this
theorem ofF (k : Nat) (a0 : Int) (h0 : 0 ≤ a0 ∧ a0 < 256) (l : List Int) (hb : ∀ x ∈ l, 0 ≤ x ∧ x < 256) (hl : l.length ≤ 100000000000) (hk : l.length + 301 ≤ k) : rubrickref03_Of.f k a0 l = some (shaSum (a0 :: l)) := by
  obtain ⟨K, rfl⟩ : ∃ K, k = l.length + 1 + K := ⟨k - (l.length + 1), by omega⟩
  unfold rubrickref03_Of.f
  rw [bytesF a0 h0 l (by omega) K]
  simp only [Option.bind_some]
  rw [refF (a0 :: l) (by
    intro x hx
    rcases List.mem_cons.1 hx with rfl | hx
    · exact h0
    · exact hb x hx) (by simp; omega) _ (by simp only [List.length_cons]; omega)]
  rfl
theorem bytesOf_str {l : List Int} (h : ∀ x ∈ l, 0 ≤ x ∧ x < 256) : bytesOf (strOfNums l) = l := by
  unfold bytesOf strOfNums
  simp only [List.map_map]
  have : ∀ x ∈ l, ((fun b : UInt8 => (b.toNat : Int)) ∘ fun x : Int => UInt8.ofNat x.toNat) x = x := by
    intro x hx
    have := h x hx
    simp only [Function.comp, UInt8.toNat_ofNat']
    omega
  exact (List.map_congr_left this).trans (List.map_id l)
end Go.Proofs.YtgcfhgkhokljcaaDoor.PureO

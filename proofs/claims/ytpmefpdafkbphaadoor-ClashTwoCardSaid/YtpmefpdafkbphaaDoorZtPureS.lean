import Derived.Test.YtpmefpdafkbphaaDoorZtPS
namespace Go.Proofs.YtpmefpdafkbphaaDoor.PureS
open Go.RowKit HSha PS Go.Proofs.YtpmefpdafkbphaaDoorW.PrintWords Go.Proofs.YtpmefpdafkbphaaDoorW.PrintLast
theorem sumF {l : List Int} (h : l.length ≤ 1099511627776) : sha_Sum.f l = some (shaSum l) := by unfold sha_Sum.f; rw [if_pos h]
theorem shaSum_size (l : List Int) : (shaSum l).size = 32 := by unfold shaSum endS; rw [strOfNums_size, outB_len]
theorem put1 (k : Nat) (a : Int) (s : ByteArray) (h : s.size ≤ 1000000000000) : seal_put.f (k + 2) a [s] = some (a :: bytesOf s) := by
  (have h1 : s.size < 140737488355327 := by omega); simp [seal_put.f, seal_put.l0, rdOf, wrap64]; omega
theorem put2 (k : Nat) (a : Int) (s t : ByteArray) (h : s.size ≤ 1000000000000) (h2 : t.size ≤ 1000000000000) : seal_put.f (k + 3) a [s, t] = some (a :: (bytesOf s ++ bytesOf t)) := by
  (have h1 : 1 + s.size < 140737488355328 := by omega); have h3 : (bytesOf s).length = s.size := bytesOf_length s; simp [seal_put.f, seal_put.l0, rdOf, wrap64, h3]; omega
theorem leafBytesF (k : Nat) (l : List Int) (h : l.length ≤ 1000000000000) : seal_LeafBytes.f (k + 2) l = some (0 :: bytesOf (strOfNums l)) := by
  unfold seal_LeafBytes.f; rw [put1 k _ _ (by rw [strOfNums_size]; exact h)]; rfl
theorem postsBytesF (k : Nat) (l : List Int) (h : l.length ≤ 1000000000000) : seal_PostsBytes.f (k + 2) l = some (2 :: bytesOf (strOfNums l)) := by
  unfold seal_PostsBytes.f; rw [put1 k _ _ (by rw [strOfNums_size]; exact h)]; rfl
theorem headBytesF (k : Nat) (l : List Int) (h : l.length ≤ 1000000000000) : seal_HeadBytes.f (k + 2) l = some (3 :: bytesOf (strOfNums l)) := by
  unfold seal_HeadBytes.f; rw [put1 k _ _ (by rw [strOfNums_size]; exact h)]; rfl
theorem nodeBytesF (k : Nat) (a b : ByteArray) (h : a.size ≤ 1000000000000) (h2 : b.size ≤ 1000000000000) : seal_NodeBytes.f (k + 3) a b = some (1 :: (bytesOf a ++ bytesOf b)) := by
  unfold seal_NodeBytes.f; rw [put2 k _ _ _ h h2]; rfl
theorem bs_len (l : List Int) : (bytesOf (strOfNums l)).length = l.length := by rw [bytesOf_length, strOfNums_size]
theorem leafF (k : Nat) (l : List Int) (h : l.length ≤ 1000000000000) : seal_Leaf.f (k + 2) l = some (shaSum (0 :: bytesOf (strOfNums l))) := by
  unfold seal_Leaf.f; rw [leafBytesF k l h]; simp only [Option.bind_some]; rw [sumF (by rw [List.length_cons, bs_len]; omega)]; rfl
theorem nodeF (k : Nat) (a b : ByteArray) : seal_Node.f (k + 4) a b = some (if a.size = 32 ∧ b.size = 32 then (shaSum (1 :: (bytesOf a ++ bytesOf b)), 0) else (ByteArray.empty, 1)) := by
  unfold seal_Node.f
  by_cases ha : a.size = 32
  · rw [if_pos (by omega)]
    by_cases hb : b.size = 32
    · have : ((b.size : Int) != 32) = false := by simp [hb]
      rw [this]; simp only [seal_Node.j0, Bool.false_eq_true, if_false]; (rw [nodeBytesF k a b (by omega) (by omega)]); simp only [Option.bind_some]; (rw [sumF (by simp [bytesOf_length]; omega), if_pos ⟨ha, hb⟩]); rfl
    · have : ((b.size : Int) != 32) = true := by simp; omega
      (rw [this, if_neg (fun h => hb h.2)]); simp [seal_Node.j0]; rfl
  · rw [if_neg (by omega), if_neg (fun h => ha h.1)]
    simp [seal_Node.j0]; rfl
theorem up {α : Type} {f : Nat → Option α} (hm : ∀ k, LeO (f k) (f (k + 1))) {n : Nat} {r : α} (h : f n = some r) : ∀ k, n ≤ k → f k = some r := by
  intro k hk; obtain ⟨d, rfl⟩ := Nat.le.dest hk; clear hk
  induction d with
  | zero => exact h
  | succ d ih => exact hm _ r ih
def isB (a b : List Int) : Bool := !((strOfNums a).toList == (strOfNums b).toList) && ((shaSum a).toList == (shaSum b).toList)
theorem isF (a b : List Int) (ha : a.length ≤ 1000000000000) (hb : b.length ≤ 1000000000000) : seal_Is.f a b = some (isB a b) := by
  unfold seal_Is.f isB
  by_cases h : (strOfNums a).toList = (strOfNums b).toList
  · rw [if_pos h, beq_iff_eq.mpr h]; rfl
  · rw [if_neg h, sumF (by omega), sumF (by omega), beq_eq_false_iff_ne.mpr h]; rfl
end Go.Proofs.YtpmefpdafkbphaaDoor.PureS

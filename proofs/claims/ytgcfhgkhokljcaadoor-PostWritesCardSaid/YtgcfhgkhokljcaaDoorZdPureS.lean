import Derived.Test.YtgcfhgkhokljcaaDoorZdPS
namespace Go.Proofs.YtgcfhgkhokljcaaDoor.PureS
open Go.RowKit Go.Proofs.YtgcfhgkhokljcaaDoor.HSha Go.Proofs.YtgcfhgkhokljcaaDoor.PS Go.Proofs.YtgcfhgkhokljcaaDoorW.PrintWords Go.Proofs.YtgcfhgkhokljcaaDoorW.PrintLast
theorem sumF {l : List Int} (h : l.length ≤ 1099511627776) : sha_Sum.f l = some (shaSum l) := by unfold sha_Sum.f; rw [if_pos h]
theorem put1 (k : Nat) (a : Int) (s : ByteArray) (h : s.size ≤ 1000000000000) : seal_put.f (k + 2) a [s] = some (a :: bytesOf s) := by
  have h1 : s.size < 140737488355327 := by omega
  simp [seal_put.f, seal_put.l0, rdOf, wrap64]
  omega
theorem postsBytesF (k : Nat) (l : List Int) (h : l.length ≤ 1000000000000) : seal_PostsBytes.f (k + 2) l = some (2 :: bytesOf (strOfNums l)) := by
  unfold seal_PostsBytes.f; rw [put1 k _ _ (by rw [strOfNums_size]; exact h)]; rfl
theorem bs_len (l : List Int) : (bytesOf (strOfNums l)).length = l.length := by rw [bytesOf_length, strOfNums_size]
theorem postsF (k : Nat) (l : List Int) (h : l.length ≤ 1000000000000) : seal_Posts.f (k + 2) l = some (shaSum (2 :: bytesOf (strOfNums l))) := by
  unfold seal_Posts.f; rw [postsBytesF k l h]; simp only [Option.bind_some]; rw [sumF (by rw [List.length_cons, bs_len]; omega)]; rfl
end Go.Proofs.YtgcfhgkhokljcaaDoor.PureS

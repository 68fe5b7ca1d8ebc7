import Derived.Test.YtpmefpdafkbphaaDoorZtHNode
import Derived.Test.YtpmefpdafkbphaaDoorZtPureS
import Derived.Test.YtpmefpdafkbphaaDoorZtPureR
import Derived.Test.YtpmefpdafkbphaaDoorZtEvl
namespace Go.Proofs.YtpmefpdafkbphaaDoor.PureO
open Go.RowKit HSha PS PR PT HNode PureS PureR Evl Go.Proofs.YtpmefpdafkbphaaDoorW.PrintWords Go.Proofs.YtpmefpdafkbphaaDoorW.PrintLast
theorem bytes_wf {l : List Int} (h : ∀ x ∈ l, (Lit.int .u8 x).wf = true) : ∀ x ∈ l, 0 ≤ x ∧ x < 256 := by
  intro x hx; have := h x hx; simp [Lit.wf, IntKind.min, IntKind.max, IntKind.signed, IntKind.bits] at this; omega
theorem bytesF (a0 : Int) (h0 : 0 ≤ a0 ∧ a0 < 256) (l : List Int) (hl : l.length ≤ 1000000000000) (K : Nat) : rubrickref03_Bytes.f (l.length + 1 + K) a0 l = some (a0 :: l) := by
  have key : ∀ n, n ≤ l.length → rubrickref03_Bytes.l0 (n + 1 + K) l (a0 :: l.take (l.length - n)) ((l.length - n : Nat) : Int) = some (a0 :: l) := by
    intro n
    induction n with
    | zero =>
      intro _; (rw [show 0 + 1 + K = K + 1 by omega]); simp only [rubrickref03_Bytes.l0, Nat.sub_zero, List.take_length]
      rw [if_neg (by omega)]
    | succ n ih =>
      intro hn; obtain ⟨m, hm⟩ : ∃ m, l.length - (n + 1) = m := ⟨_, rfl⟩; (have ih := ih (by omega)); (rw [show l.length - n = m + 1 by omega] at ih); (rw [hm, show n + 1 + 1 + K = (n + 1 + K) + 1 by omega]); (have e : wrap64 ((m : Int) + 1) = ((m + 1 : Nat) : Int) := by unfold wrap64; omega); (have r : rd l (m : Int) = l[m]'(by omega) := by unfold rd; rw [Int.toNat_natCast, List.getD_eq_getElem?_getD, List.getElem?_eq_getElem (by omega)]; rfl); simp only [rubrickref03_Bytes.l0, e, r]; (rw [if_pos (by omega), if_pos (by omega), if_pos (by simp; omega), List.cons_append, ← List.take_succ_eq_append_getElem (by omega)]); exact ih
  have := key l.length (Nat.le_refl _); rw [Nat.sub_self] at this; unfold rubrickref03_Bytes.f; rw [Int.emod_eq_of_lt h0.1 h0.2]; exact this
theorem bytesE (a0 : Int) (h0 : 0 ≤ a0 ∧ a0 < 256) (l : List Int) (hl : l.length ≤ 1000000000000) : Evl (fun k => rubrickref03_Bytes.f k a0 l) (a0 :: l) :=
  ⟨l.length + 1, fun k hk => by
    obtain ⟨K, rfl⟩ := Nat.le.dest hk
    exact bytesF a0 h0 l hl K⟩
theorem ofF (k : Nat) (a0 : Int) (h0 : 0 ≤ a0 ∧ a0 < 256) (l : List Int) (hb : ∀ x ∈ l, 0 ≤ x ∧ x < 256) (hl : l.length ≤ 100000000000) (hk : l.length + 301 ≤ k) : rubrickref03_Of.f k a0 l = some (shaSum (a0 :: l)) := by
  (obtain ⟨K, rfl⟩ : ∃ K, k = l.length + 1 + K := ⟨k - (l.length + 1), by omega⟩); unfold rubrickref03_Of.f; (rw [bytesF a0 h0 l (by omega) K]); simp only [Option.bind_some]
  rw [refF (a0 :: l) (by
    intro x hx; rcases List.mem_cons.1 hx with rfl | hx
    · exact h0
    · exact hb x hx) (by simp; omega) _ (by simp only [List.length_cons]; omega)]
  rfl
def leafD (l : List Int) : ByteArray := shaSum (0 :: l)
def nodeD (a b : ByteArray) : ByteArray := shaSum (1 :: (bytesOf a ++ bytesOf b))
def emptyD : ByteArray := shaSum []
theorem leafD_size (l : List Int) : (leafD l).size = 32 := shaSum_size _
theorem nodeD_size (a b : ByteArray) : (nodeD a b).size = 32 := shaSum_size _
theorem emptyD_size : emptyD.size = 32 := shaSum_size _
theorem bytesOf_range (s : ByteArray) : ∀ x ∈ bytesOf s, 0 ≤ x ∧ x < 256 := by
  intro x hx; obtain ⟨b, _, rfl⟩ := List.mem_map.1 hx; have := b.toNat_lt; omega
theorem bytesOf_app (a b : ByteArray) : bytesOf (a ++ b) = bytesOf a ++ bytesOf b := by simp [bytesOf]
theorem bytesOf_str {l : List Int} (h : ∀ x ∈ l, 0 ≤ x ∧ x < 256) : bytesOf (strOfNums l) = l := by
  unfold bytesOf strOfNums; simp only [List.map_map]
  have : ∀ x ∈ l, ((fun b : UInt8 => (b.toNat : Int)) ∘ fun x : Int => UInt8.ofNat x.toNat) x = x := by
    intro x hx; have := h x hx; simp only [Function.comp, UInt8.toNat_ofNat']; omega
  exact (List.map_congr_left this).trans (List.map_id l)
theorem sumE (l : List Int) (h : l.length ≤ 1099511627776) : Evl (fun _ => sha_Sum.f l) (shaSum l) := ⟨0, fun _ _ => sumF h⟩
theorem leafE (l : List Int) (hb : ∀ x ∈ l, 0 ≤ x ∧ x < 256) (h : l.length ≤ 1000000000000) : Evl (fun k => seal_Leaf.f k l) (leafD l) :=
  ⟨2, fun k hk => by
    (obtain ⟨m, rfl⟩ : ∃ m, k = m + 2 := ⟨k - 2, by omega⟩); (show seal_Leaf.f (m + 2) l = _); rw [leafF m l h, bytesOf_str hb]
    rfl⟩
theorem nodeE (a b : ByteArray) : Evl (fun k => seal_Node.f k a b) (if a.size = 32 ∧ b.size = 32 then (nodeD a b, 0) else (ByteArray.empty, 1)) :=
  ⟨4, fun k hk => by
    obtain ⟨m, rfl⟩ : ∃ m, k = m + 4 := ⟨k - 4, by omega⟩
    exact nodeF m a b⟩
theorem rleafE (l : List Int) (hb : ∀ x ∈ l, 0 ≤ x ∧ x < 256) (h : l.length ≤ 10000000000) : Evl (fun k => rubrickref03_Leaf.f k l) (leafD l) :=
  ⟨l.length + 302, fun k hk => by
    (show (rubrickref03_Of.f k 0 l).bind _ = _); (rw [ofF k 0 (by omega) l hb (by omega) (by omega)])
    rfl⟩
theorem rnodeE (a b : ByteArray) (h : a.size ≤ 10000000000) (h2 : b.size ≤ 10000000000) : Evl (fun k => rubrickref03_Node.f k a b) (nodeD a b) :=
  ⟨a.size + b.size + 302, fun k hk => by
    (show (if a.size + b.size ≤ 9223372036854775807 then rubrickref03_Of.f k 1 (bytesOf (a ++ b)) else none) = _); (have e : (bytesOf (a ++ b)).length = a.size + b.size := by rw [bytesOf_length, ByteArray.size_append]); (rw [if_pos (by omega), ofF k 1 (by omega) _ (bytesOf_range _) (by omega) (by omega), bytesOf_app])
    rfl⟩
theorem rsumE (l : List Int) (hb : ∀ x ∈ l, 0 ≤ x ∧ x < 256) (h : l.length ≤ 10000000000) : Evl (fun k => rubrickref01_Sum.f k l) (shaSum l) :=
  ⟨l.length + 300, fun k hk => refF l hb (by omega) k hk⟩
end Go.Proofs.YtpmefpdafkbphaaDoor.PureO

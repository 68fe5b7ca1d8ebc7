import Derived.Test.YtjcfimnijpcjmaaDoorZcPT
import Derived.Test.YtjcfimnijpcjmaaDoorZcHNode
import Derived.Test.YtjcfimnijpcjmaaDoorZcPureS
import Derived.Test.YtjcfimnijpcjmaaDoorZcPureR
import Derived.Test.YtjcfimnijpcjmaaDoorZcEvl
namespace Go.Proofs.YtjcfimnijpcjmaaDoor.PureO
open Go.RowKit Go.Proofs.YtjcfimnijpcjmaaDoor.HSha Go.Proofs.YtjcfimnijpcjmaaDoor.PS Go.Proofs.YtjcfimnijpcjmaaDoor.PR Go.Proofs.YtjcfimnijpcjmaaDoor.PT Go.Proofs.YtjcfimnijpcjmaaDoor.HNode Go.Proofs.YtjcfimnijpcjmaaDoor.PureS Go.Proofs.YtjcfimnijpcjmaaDoor.PureR Go.Proofs.YtjcfimnijpcjmaaDoor.Evl Go.Proofs.YtjcfimnijpcjmaaDoorW.PrintWords Go.Proofs.YtjcfimnijpcjmaaDoorW.PrintLast
theorem bytes_wf {l : List Int} (h : ∀ x ∈ l, (Lit.int .u8 x).wf = true) : ∀ x ∈ l, 0 ≤ x ∧ x < 256 := by
  intro x hx
  have := h x hx
  simp [Lit.wf, IntKind.min, IntKind.max, IntKind.signed, IntKind.bits] at this
  omega
/-- The digest of a leaf, of a node, of nothing. -/
def leafD (l : List Int) : ByteArray := shaSum (0 :: l)
def nodeD (a b : ByteArray) : ByteArray := shaSum (1 :: (bytesOf a ++ bytesOf b))
theorem bytesOf_range (s : ByteArray) : ∀ x ∈ bytesOf s, 0 ≤ x ∧ x < 256 := by
  intro x hx
  obtain ⟨b, _, rfl⟩ := List.mem_map.1 hx
  have := b.toNat_lt
  omega
theorem bytesOf_str {l : List Int} (h : ∀ x ∈ l, 0 ≤ x ∧ x < 256) : bytesOf (strOfNums l) = l := by
  unfold bytesOf strOfNums
  simp only [List.map_map]
  have : ∀ x ∈ l, ((fun b : UInt8 => (b.toNat : Int)) ∘ fun x : Int => UInt8.ofNat x.toNat) x = x := by
    intro x hx
    have := h x hx
    simp only [Function.comp, UInt8.toNat_ofNat']
    omega
  exact (List.map_congr_left this).trans (List.map_id l)
theorem leafE (l : List Int) (hb : ∀ x ∈ l, 0 ≤ x ∧ x < 256) (h : l.length ≤ 1000000000000) : Evl (fun k => seal_Leaf.f k l) (leafD l) :=
  ⟨2, fun k hk => by
    obtain ⟨m, rfl⟩ : ∃ m, k = m + 2 := ⟨k - 2, by omega⟩
    show seal_Leaf.f (m + 2) l = _
    rw [leafF m l h, bytesOf_str hb]
    rfl⟩
theorem nodeE (a b : ByteArray) : Evl (fun k => seal_Node.f k a b) (if a.size = 32 ∧ b.size = 32 then (nodeD a b, 0) else (ByteArray.empty, 1)) :=
  ⟨4, fun k hk => by
    obtain ⟨m, rfl⟩ : ∃ m, k = m + 4 := ⟨k - 4, by omega⟩
    exact nodeF m a b⟩
theorem rsumE (l : List Int) (hb : ∀ x ∈ l, 0 ≤ x ∧ x < 256) (h : l.length ≤ 10000000000) : Evl (fun k => rubrickref01_Sum.f k l) (shaSum l) :=
  ⟨l.length + 300, fun k hk => refF l hb (by omega) k hk⟩
end Go.Proofs.YtjcfimnijpcjmaaDoor.PureO

import Derived.Test.YtjcfimnijpcjmaaDoorZbPureO
namespace Go.Proofs.YtjcfimnijpcjmaaDoor.PureSealU
open Go.RowKit Go.Proofs.YtjcfimnijpcjmaaDoor.HSha Go.Proofs.YtjcfimnijpcjmaaDoor.PS Go.Proofs.YtjcfimnijpcjmaaDoor.PR Go.Proofs.YtjcfimnijpcjmaaDoor.PT Go.Proofs.YtjcfimnijpcjmaaDoor.HNode Go.Proofs.YtjcfimnijpcjmaaDoor.Evl Go.Proofs.YtjcfimnijpcjmaaDoor.PureS Go.Proofs.YtjcfimnijpcjmaaDoor.PureO Go.Proofs.YtjcfimnijpcjmaaDoorW.PrintWords Go.Proofs.YtjcfimnijpcjmaaDoorW.PrintLast Go.Proofs.YtjcfimnijpcjmaaDoorW.PrintMore
set_option linter.unusedVariables false
theorem knows03E : Evl (fun k => (rubricklaw03_knows.f k).bind fun t => some t) true :=
  Evl.bind (f := fun k => rubricklaw03_knows.f k) ⟨99, fun k hk => knows03U k hk⟩ (Evl.ret _)
theorem ev2 {α : Type} {f : Nat → Option α} {r : α} (h : ∀ k, f (k + 2) = some r) : Evl f r := ⟨2, fun k hk => by
  obtain ⟨m, rfl⟩ : ∃ m, k = m + 2 := ⟨k - 2, by omega⟩
  exact h m⟩
theorem noneB : (⟨#[]⟩ : ByteArray).toList = ([] : List UInt8) := by decide +kernel
theorem noneE : (ByteArray.empty).toList = ([] : List UInt8) := noneB
theorem str_bytes (s : ByteArray) : strOfNums (bytesOf s) = s := by
  unfold strOfNums bytesOf
  cases s with
  | mk d =>
    simp only [List.map_map]
    have : ∀ x ∈ d.toList, ((fun x : Int => UInt8.ofNat x.toNat) ∘ fun b : UInt8 => (b.toNat : Int)) x = x := by
      intro x _
      simp
    rw [List.map_congr_left this]
    simp
end Go.Proofs.YtjcfimnijpcjmaaDoor.PureSealU

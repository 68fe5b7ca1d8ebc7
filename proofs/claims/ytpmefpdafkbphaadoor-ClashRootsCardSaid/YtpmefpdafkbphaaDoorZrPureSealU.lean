import Derived.Test.YtpmefpdafkbphaaDoorZrPureO
namespace Go.Proofs.YtpmefpdafkbphaaDoor.PureSealU
open Go.RowKit Go.Proofs.YtpmefpdafkbphaaDoor.HSha Go.Proofs.YtpmefpdafkbphaaDoor.PS Go.Proofs.YtpmefpdafkbphaaDoor.PR Go.Proofs.YtpmefpdafkbphaaDoor.PT Go.Proofs.YtpmefpdafkbphaaDoor.HNode Go.Proofs.YtpmefpdafkbphaaDoor.Evl Go.Proofs.YtpmefpdafkbphaaDoor.PureS Go.Proofs.YtpmefpdafkbphaaDoor.PureO Go.Proofs.YtpmefpdafkbphaaDoorW.PrintWords Go.Proofs.YtpmefpdafkbphaaDoorW.PrintLast Go.Proofs.YtpmefpdafkbphaaDoorW.PrintMore
set_option linter.unusedVariables false
theorem ev2 {α : Type} {f : Nat → Option α} {r : α} (h : ∀ k, f (k + 2) = some r) : Evl f r := ⟨2, fun k hk => by
  obtain ⟨m, rfl⟩ : ∃ m, k = m + 2 := ⟨k - 2, by omega⟩
  exact h m⟩
theorem str_bytes (s : ByteArray) : strOfNums (bytesOf s) = s := by
  unfold strOfNums bytesOf
  cases s with
  | mk d =>
    simp only [List.map_map]
    have : ∀ x ∈ d.toList, ((fun x : Int => UInt8.ofNat x.toNat) ∘ fun b : UInt8 => (b.toNat : Int)) x = x := by
      intro x _
      simp
    rw [List.map_congr_left this]
    simp
theorem toList_inj {s t : ByteArray} (h : s.toList = t.toList) : s = t := by
  rw [ByteArray.toList_eq, ByteArray.toList_eq] at h
  cases s
  cases t
  exact congrArg ByteArray.mk (Array.ext' h)
theorem str_inj {a b : List Int} (ha : ∀ x ∈ a, 0 ≤ x ∧ x < 256) (hb : ∀ x ∈ b, 0 ≤ x ∧ x < 256) (h : (strOfNums a).toList = (strOfNums b).toList) : a = b := by
  rw [← bytesOf_str ha, ← bytesOf_str hb, toList_inj h]
/-- What Between answers. -/
def btw (a b : List Int) : List Int × List Int × Bool := if isB a b = true then (a, b, true) else ([], [], false)
theorem betweenE (a b : List Int) (h1 : a.length ≤ 1000000000000) (h2 : b.length ≤ 1000000000000) : Evl (fun _ => seal_Between.f a b) (btw a b) := Evl.of 0 fun _ _ => by
  unfold seal_Between.f
  simp only [Option.bind_some, List.nil_append, List.length_nil, Nat.zero_add]
  rw [if_pos (by omega), if_pos (by omega), isF a b h1 h2]
  unfold btw
  cases isB a b <;> rfl
theorem isB_self (a : List Int) : isB a a = false := by unfold isB; simp
theorem isB_ne {a b : List Int} (ha : ∀ x ∈ a, 0 ≤ x ∧ x < 256) (hb : ∀ x ∈ b, 0 ≤ x ∧ x < 256) (h : a ≠ b) : isB a b = ((shaSum a).toList == (shaSum b).toList) := by
  unfold isB
  have : ((strOfNums a).toList == (strOfNums b).toList) = false := beq_eq_false_iff_ne.2 fun e => h (str_inj ha hb e)
  rw [this]
  simp
end Go.Proofs.YtpmefpdafkbphaaDoor.PureSealU

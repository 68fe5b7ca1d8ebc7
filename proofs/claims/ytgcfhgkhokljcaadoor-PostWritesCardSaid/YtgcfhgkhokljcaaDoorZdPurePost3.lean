import Derived.Test.YtgcfhgkhokljcaaDoorZdPurePost
namespace Go.Proofs.YtgcfhgkhokljcaaDoor.PurePost
open Go.RowKit Go.Proofs.YtgcfhgkhokljcaaDoor.PA Go.Proofs.YtgcfhgkhokljcaaDoor.Evl Go.Proofs.YtgcfhgkhokljcaaDoorW.PrintWords Go.Proofs.YtgcfhgkhokljcaaDoorW.PrintLast Go.Proofs.YtgcfhgkhokljcaaDoorW.PrintMore
set_option linter.unusedVariables false
theorem right_len : ∀ (l : List Int) (last : Int), -1 ≤ last → last < 1000 → rightFrom last l = true → last + l.length ≤ 999
  | [], last, _, _, _ => by simp; omega
  | x :: r, last, h0, h1, hr => by
    rw [rightFrom] at hr
    split at hr
    · cases hr
    split at hr
    · cases hr
    have := right_len r x (by omega) (by omega) hr
    rw [List.length_cons]
    omega
theorem up9 {α : Type} {f : Nat → Option α} (hm : ∀ k, LeO (f k) (f (k + 1))) {K : Nat} {r : α} (h : f K = some r) : ∀ k, K ≤ k → f k = some r := by
  intro k hk
  obtain ⟨d, rfl⟩ : ∃ d, k = K + d := ⟨k - K, by omega⟩
  clear hk
  induction d with
  | zero => exact h
  | succ d ih => exact hm _ _ ih
theorem knows09E : Evl (fun k => (rubricklaw09_knows.f k).bind fun t => some t) true :=
  Evl.bind (f := fun k => rubricklaw09_knows.f k) ⟨_, up9 rubricklaw09_knows.mono rubricklaw09_knows.sure⟩ (Evl.ret _)
end Go.Proofs.YtgcfhgkhokljcaaDoor.PurePost

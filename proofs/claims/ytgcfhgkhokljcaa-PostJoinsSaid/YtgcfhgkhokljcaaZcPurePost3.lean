import Derived.Test.YtgcfhgkhokljcaaZcPurePost
namespace Go.Proofs.Ytgcfhgkhokljcaa.PurePost
open Go.RowKit Go.Proofs.Ytgcfhgkhokljcaa.PA Go.Proofs.Ytgcfhgkhokljcaa.Evl Go.Proofs.YtgcfhgkhokljcaaW.PrintWords Go.Proofs.YtgcfhgkhokljcaaW.PrintLast Go.Proofs.YtgcfhgkhokljcaaW.PrintMore
set_option linter.unusedVariables false
theorem right_len : ∀ (l : List Int) (last : Int), -1 ≤ last → last < 1000 → rightFrom last l = true → last + l.length ≤ 999
  | [], last, _, _, _ => by simp; omega
  | x :: r, last, h0, h1, hr => by
    rw [rightFrom] at hr
    split at hr
    · cases hr
    split at hr
    · cases hr
    have := right_len r x (by omega) (by omega) hr
    rw [List.length_cons]
    omega
/-- Are two lists the same? -/
theorem same_loop (a b : List Int) (hab : a.length = b.length) (ha : a.length ≤ 1000000000) : ∀ d i : Nat, i + d = a.length → Evl (fun k => rubrickref09_Same.l0 k a b (i : Int)) (decide (a.drop i = b.drop i))
  | 0, i, h => by
    refine Evl.step (fun _ => rubrickref09_Same.l0.eq_2 ..) (Evl.neg (by omega) (Evl.ret' ?_))
    rw [List.drop_eq_nil_of_le (by omega), List.drop_eq_nil_of_le (by omega)]; rfl
  | d + 1, i, h => by
    have hi : i < a.length := by omega
    have hj : i < b.length := by omega
    refine Evl.step (fun _ => rubrickref09_Same.l0.eq_2 ..) (Evl.pos (by omega) (Evl.pos (by omega) (Evl.pos (by omega) ?_)))
    rw [rdi a i hi, rdi b i hj, w1 i (by omega), List.drop_eq_getElem_cons hi, List.drop_eq_getElem_cons hj]
    by_cases he : a[i] = b[i]
    · refine Evl.pos he ((same_loop a b hab ha d (i + 1) (by omega)).cast ?_)
      exact decide_eq_decide.2 ⟨fun h => by rw [he, h], fun h => (List.cons.inj h).2⟩
    · refine Evl.neg he (Evl.ret' (decide_eq_false (fun h => he (List.cons.inj h).1)).symm)
theorem sameE (a b : List Int) (ha : a.length ≤ 1000000000) : Evl (fun k => rubrickref09_Same.f k a b) (decide (a = b)) := by
  unfold rubrickref09_Same.f
  by_cases h : a.length = b.length
  · exact Evl.pos (by omega) (same_loop a b h ha a.length 0 (by omega))
  · refine Evl.neg (by omega) (Evl.ret' (decide_eq_false (fun e => h (by rw [e]))).symm)
theorem up9 {α : Type} {f : Nat → Option α} (hm : ∀ k, LeO (f k) (f (k + 1))) {K : Nat} {r : α} (h : f K = some r) : ∀ k, K ≤ k → f k = some r := by
  intro k hk
  obtain ⟨d, rfl⟩ : ∃ d, k = K + d := ⟨k - K, by omega⟩
  clear hk
  induction d with
  | zero => exact h
  | succ d ih => exact hm _ _ ih
theorem knows09E : Evl (fun k => (rubricklaw09_knows.f k).bind fun t => some t) true :=
  Evl.bind (f := fun k => rubricklaw09_knows.f k) ⟨_, up9 rubricklaw09_knows.mono rubricklaw09_knows.sure⟩ (Evl.ret _)
end Go.Proofs.Ytgcfhgkhokljcaa.PurePost

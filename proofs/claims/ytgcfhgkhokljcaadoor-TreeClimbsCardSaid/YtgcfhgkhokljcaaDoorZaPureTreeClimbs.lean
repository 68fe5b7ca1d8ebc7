import Derived.Test.YtgcfhgkhokljcaaDoorZaPTreeClimbs
import Derived.Test.YtgcfhgkhokljcaaDoorZaPureTreeK
namespace Go.Proofs.YtgcfhgkhokljcaaDoor.Pure
open Go.RowKit Go.Proofs.YtgcfhgkhokljcaaDoor.HSha Go.Proofs.YtgcfhgkhokljcaaDoor.PS Go.Proofs.YtgcfhgkhokljcaaDoor.PB Go.Proofs.YtgcfhgkhokljcaaDoor.PC Go.Proofs.YtgcfhgkhokljcaaDoor.PK Go.Proofs.YtgcfhgkhokljcaaDoor.PureS Go.Proofs.YtgcfhgkhokljcaaDoor.PureO Go.Proofs.YtgcfhgkhokljcaaDoor.PureTree Go.Proofs.YtgcfhgkhokljcaaDoor.Thy Go.Proofs.YtgcfhgkhokljcaaDoor.Evl Go.Proofs.YtgcfhgkhokljcaaDoor.PTreeClimbs Go.Proofs.YtgcfhgkhokljcaaDoorW.PrintWords Go.Proofs.YtgcfhgkhokljcaaDoorW.PrintLast
set_option linter.unusedVariables false
theorem TreeClimbs (x : ByteArray) (i n : Int) (p : List ByteArray) (hx : x.size ≤ 9223372036854775807) (hi : (Lit.int .i64 i).wf = true) (hn : (Lit.int .i64 n).wf = true) (hl : p.length ≤ 9223372036854775807 ∧ ∀ x ∈ p, x.size ≤ 9223372036854775807) : ∃ k, rubricklaw06_TreeClimbs.f k x i n p = some true := by
  refine Evl.ex (f := fun k => rubricklaw06_TreeClimbs.f k x i n p) ?_
  unfold rubricklaw06_TreeClimbs.f
  refine Evl.bind (greatE p hl.1) ?_
  have early : Evl (fun k => rubricklaw06_TreeClimbs.j0 k x i n p true) true := Evl.step (fun _ => rubricklaw06_TreeClimbs.j0.eq_2 ..) (Evl.pos rfl knows06E)
  cases hg : greatD p
  rotate_left
  · exact Evl.pos rfl early
  have h100 := great_len hg
  refine Evl.neg (by simp) ?_
  by_cases hs : (x.size : Int) > 1000
  · rw [decide_eq_true hs]; exact early
  rw [decide_eq_false hs]
  refine Evl.step (fun _ => rubricklaw06_TreeClimbs.j0.eq_2 ..) (Evl.neg (by simp) (Evl.bind (tclimbE x i n p (by omega)) ?_))
  unfold climbA
  have bad : Evl (fun k => rubricklaw06_TreeClimbs.j1 k x i n p (⟨#[]⟩ : ByteArray) 1 true) true := Evl.step (fun _ => rubricklaw06_TreeClimbs.j1.eq_2 ..) (Evl.pos rfl (Evl.pos noneL (Evl.pos rfl knows06E)))
  by_cases h1 : (x.size : Int) = 32
  rotate_left
  · rw [if_neg (by omega)]; exact Evl.neg h1 bad
  refine Evl.pos h1 ?_
  by_cases h2 : n < 1
  · rw [if_neg (by omega)]; exact Evl.pos h2 bad
  refine Evl.neg h2 ?_
  by_cases h3 : n > 1099511627776
  · rw [if_neg (by omega)]; exact Evl.pos h3 bad
  refine Evl.neg h3 ?_
  by_cases h4 : i < 0
  · rw [if_neg (by omega)]; exact Evl.pos h4 bad
  refine Evl.neg h4 ?_
  by_cases h5 : i ≥ n
  · rw [if_neg (by omega), decide_eq_true h5]; exact bad
  rw [if_pos (show x.size = 32 ∧ 1 ≤ n ∧ n ≤ 1099511627776 ∧ 0 ≤ i ∧ i < n from ⟨by omega, by omega, by omega, by omega, by omega⟩), decide_eq_false h5]
  obtain ⟨i, rfl⟩ := Int.eq_ofNat_of_zero_le (show 0 ≤ i by omega)
  obtain ⟨n, rfl⟩ := Int.eq_ofNat_of_zero_le (show 0 ≤ n by omega)
  rw [Int.toNat_natCast, Int.toNat_natCast]
  refine Evl.step (fun _ => rubricklaw06_TreeClimbs.j1.eq_2 ..) (Evl.neg (by simp) (Evl.bind (rstepsE n i (by omega) (by omega)) ?_))
  have no : Evl (fun k => rubricklaw06_TreeClimbs.j2 k x (i : Int) (n : Int) p (⟨#[]⟩ : ByteArray) 6 true) true := Evl.step (fun _ => rubricklaw06_TreeClimbs.j2.eq_2 ..) (Evl.pos rfl (Evl.pos noneL (Evl.pos rfl knows06E)))
  by_cases h6 : (p.length : Int) = (steps i n : Int)
  · refine Evl.pos h6 (Evl.bind (rrightE p (by omega)) ?_)
    cases ok : okD p
    · rw [if_neg (by simp)]; exact no
    · rw [if_pos (show p.length = steps i n ∧ true = true from ⟨by omega, rfl⟩)]
      exact Evl.step (fun _ => rubricklaw06_TreeClimbs.j2.eq_2 ..) (Evl.neg (by simp) (Evl.bind (rclimbE n i x p (by omega) (by omega) (by omega) ok (by omega)) (Evl.pos rfl (Evl.pos rfl knows06E))))
  · rw [if_neg (by omega)]
    exact Evl.neg h6 no
end Go.Proofs.YtgcfhgkhokljcaaDoor.Pure

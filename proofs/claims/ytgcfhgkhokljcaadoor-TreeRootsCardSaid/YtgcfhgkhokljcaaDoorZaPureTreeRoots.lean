import Derived.Test.YtgcfhgkhokljcaaDoorZaPTreeRoots
import Derived.Test.YtgcfhgkhokljcaaDoorZaPureTreeK
namespace Go.Proofs.YtgcfhgkhokljcaaDoor.Pure
open Go.RowKit Go.Proofs.YtgcfhgkhokljcaaDoor.HSha Go.Proofs.YtgcfhgkhokljcaaDoor.PS Go.Proofs.YtgcfhgkhokljcaaDoor.PB Go.Proofs.YtgcfhgkhokljcaaDoor.PC Go.Proofs.YtgcfhgkhokljcaaDoor.PK Go.Proofs.YtgcfhgkhokljcaaDoor.PureS Go.Proofs.YtgcfhgkhokljcaaDoor.PureO Go.Proofs.YtgcfhgkhokljcaaDoor.PureTree Go.Proofs.YtgcfhgkhokljcaaDoor.Thy Go.Proofs.YtgcfhgkhokljcaaDoor.Evl Go.Proofs.YtgcfhgkhokljcaaDoor.PTreeRoots Go.Proofs.YtgcfhgkhokljcaaDoorW.PrintWords Go.Proofs.YtgcfhgkhokljcaaDoorW.PrintLast
set_option linter.unusedVariables false
theorem roots_last (l : List ByteArray) (hl : l.length ≤ 100) : Evl (fun k => rubricklaw06_TreeRoots.j1 k l (if okD l = true then (rootD l, (0 : Int)) else (⟨#[]⟩, 1)).1 (if okD l = true then (rootD l, (0 : Int)) else (⟨#[]⟩, 1)).2) true := by
  refine Evl.step (fun _ => rubricklaw06_TreeRoots.j1.eq_2 ..) (Evl.bind (rrightE l (by omega)) ?_)
  cases ok : okD l
  · exact Evl.neg (by simp) (Evl.pos noneL (Evl.pos rfl knows06E))
  · exact Evl.pos rfl (Evl.bind (rrootE l.length l rfl (by omega) ok) (Evl.pos rfl (Evl.pos rfl knows06E)))
theorem TreeRoots (l : List ByteArray) (a b n : Int) (hl : l.length ≤ 9223372036854775807 ∧ ∀ x ∈ l, x.size ≤ 9223372036854775807) (ha : (Lit.int .i64 a).wf = true) (hb : (Lit.int .i64 b).wf = true) (hn : (Lit.int .i64 n).wf = true) : ∃ k, rubricklaw06_TreeRoots.f k l a b n = some true := by
  refine Evl.ex (f := fun k => rubricklaw06_TreeRoots.f k l a b n) ?_
  unfold rubricklaw06_TreeRoots.f
  refine Evl.bind (greatE l hl.1) ?_
  cases hg : greatD l
  rotate_left
  · exact Evl.pos rfl knows06E
  have h100 := great_len hg
  refine Evl.neg (by simp) (Evl.bind (trootE l (by omega)) (Evl.bind (rangeE l (by omega) a b) (Evl.bind (splitE n) (Evl.bind (rsplitE n) (Evl.pos rfl ?_)))))
  have bad : Evl (fun k => rubricklaw06_TreeRoots.j0 k l a b (if okD l = true then (rootD l, (0 : Int)) else (⟨#[]⟩, 1)).1 (if okD l = true then (rootD l, (0 : Int)) else (⟨#[]⟩, 1)).2 (⟨#[]⟩ : ByteArray) 1 true) true :=
    Evl.step (fun _ => rubricklaw06_TreeRoots.j0.eq_2 ..) (Evl.pos rfl (Evl.pos noneL (Evl.pos rfl (roots_last l h100))))
  by_cases h1 : a < 0
  · rw [if_neg (show ¬ (0 ≤ a ∧ a ≤ b ∧ b ≤ (l.length : Int)) by omega)]; exact Evl.pos h1 bad
  refine Evl.neg h1 ?_
  by_cases h2 : b < a
  · rw [if_neg (show ¬ (0 ≤ a ∧ a ≤ b ∧ b ≤ (l.length : Int)) by omega)]; exact Evl.pos h2 bad
  refine Evl.neg h2 ?_
  by_cases h3 : b > (l.length : Int)
  · rw [if_neg (show ¬ (0 ≤ a ∧ a ≤ b ∧ b ≤ (l.length : Int)) by omega)]; exact Evl.pos h3 bad
  rw [if_pos (show 0 ≤ a ∧ a ≤ b ∧ b ≤ (l.length : Int) from ⟨by omega, by omega, by omega⟩)]
  refine Evl.neg h3 (Evl.pos (by omega) (Evl.pos (by omega) (Evl.pos (by omega) (Evl.bind (rrightE _ (by simp; omega)) ?_))))
  cases ok : okD ((l.take b.toNat).drop a.toNat)
  · exact bad
  · exact Evl.step (fun _ => rubricklaw06_TreeRoots.j0.eq_2 ..) (Evl.neg (by simp) (Evl.pos (by omega) (Evl.pos (by omega) (Evl.pos (by omega) (Evl.bind (rrootE _ _ rfl (by simp; omega) ok) (Evl.pos rfl (Evl.pos rfl (roots_last l h100))))))))
end Go.Proofs.YtgcfhgkhokljcaaDoor.Pure

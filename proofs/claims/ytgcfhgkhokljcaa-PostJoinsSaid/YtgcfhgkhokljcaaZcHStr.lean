import Derived.Test.YtgcfhgkhokljcaaZcHOpen
import Derived.ChangeSame
namespace Go.Proofs.Ytgcfhgkhokljcaa.HStr
open Go.ChangeShapes Go.WideShapes Go.RowKit Go.Proofs.YtgcfhgkhokljcaaW.PrintWords
set_option linter.unusedVariables false
theorem openTwo {P : Program} {t : TypeId} {f0 f1 : Field} {i0 i1 : IntKind} (ht : P.underlying t = some (.struct #[f0, f1])) (h0 : P.underlying f0.type = some (.int i0)) (h1 : P.underlying f1.type = some (.int i1)) (c0 : P.cellsOf f0.type = 1) (c1 : P.cellsOf f1.type = 1) (o0 : f0.offset = 0) (o1 : f1.offset = 1) (ct : P.cellsOf t = 2)
    {W : World} {H : Type} {enc : TypeId × Value → H} {r : Reach} {base b2 : Nat} {spare : Nat → Bool} {held : Bool} {v : Value} {x : DataW H} {p : List MemPlace} (hv : Value.okWide P W r base t v) (h : DataW.Trod enc P W b2 spare held t v x p) :
    ∃ a b, v = .agg #[.int i0 a, .int i1 b] ∧ (Lit.int i0 a).wf = true ∧ (Lit.int i1 b).wf = true := by
  obtain ⟨cs, rfl, hs⟩ := okWide_struct ht hv
  obtain ⟨fuel, hf⟩ := h
  obtain ⟨y0, y1, n, _, hl, k0, k1⟩ := Go.ChangeShapes.trod_struct2 ht hf
  rw [c0, o0] at k0
  rw [c1, o1] at k1
  obtain ⟨a, e0, _, w0⟩ := DataW.trod_int h0 k0
  obtain ⟨b, e1, _, w1⟩ := DataW.trod_int h1 k1
  refine ⟨a, b, ?_, w0, w1⟩
  obtain ⟨l⟩ := cs
  simp only [Value.cells] at e0 e1 hl
  rw [ct] at hl
  match l, hl with
  | [u, v], _ =>
    simp at e0 e1
    rw [e0, e1]
end Go.Proofs.Ytgcfhgkhokljcaa.HStr

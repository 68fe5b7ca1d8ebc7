import Derived.Test.YtpmefpdafkbphaaDoorZlPL
import Derived.Test.YtpmefpdafkbphaaDoorZlPureS
import Derived.Test.YtpmefpdafkbphaaDoorZlEvl
import Derived.Test.YtpmefpdafkbphaaDoorZlPClashLeaf
import Derived.Test.YtpmefpdafkbphaaDoorZlPureClash3
namespace Go.Proofs.YtpmefpdafkbphaaDoor.PureClash
open Go.RowKit PL PureS Evl
theorem knows08E : Evl (fun k => (rubricklaw08_knows.f k).bind fun t => some t) true :=
  Evl.bind (f := fun k => rubricklaw08_knows.f k) ⟨_, up rubricklaw08_knows.mono rubricklaw08_knows.sure⟩ (Evl.ret _)
end Go.Proofs.YtpmefpdafkbphaaDoor.PureClash
namespace Go.Proofs.YtpmefpdafkbphaaDoor.Pure
open Go.RowKit HSha PS PT PB PC PQ PL PClashLeaf PureS PureO PureSealU PureTree PureClash Thy Evl Go.Proofs.YtpmefpdafkbphaaDoorW.PrintWords Go.Proofs.YtpmefpdafkbphaaDoorW.PrintLast Go.Proofs.YtpmefpdafkbphaaDoorW.PrintMore
set_option linter.unusedVariables false
theorem ClashLeaf (l : List (List Int)) (i : Int) (leaf : List Int) (p : List ByteArray) (hl : l.length ≤ 9223372036854775807 ∧ ∀ x ∈ l, x.length ≤ 9223372036854775807 ∧ ∀ y ∈ x, (Lit.int .u8 y).wf = true) (_ : (Lit.int .i64 i).wf = true) (hf : leaf.length ≤ 9223372036854775807 ∧ ∀ y ∈ leaf, (Lit.int .u8 y).wf = true) (hp : p.length ≤ 9223372036854775807 ∧ ∀ x ∈ p, x.size ≤ 9223372036854775807) : ∃ k, rubricklaw08_ClashLeaf.f k l i leaf p = some true := by
  (refine Evl.ex (f := fun k => rubricklaw08_ClashLeaf.f k l i leaf p) ?_); have rf := bytes_wf hf.2; (have out : Evl (fun k => rubricklaw08_ClashLeaf.j0 k l i leaf p true) true := Evl.step (fun _ => rubricklaw08_ClashLeaf.j0.eq_2 ..) (Evl.pos rfl knows08E)); unfold rubricklaw08_ClashLeaf.f; refine Evl.bind (great8E l hl.1) ?_; cases hg : great8 l; rotate_left
  · exact Evl.pos rfl out
  (refine Evl.neg (by decide) ?_); have ok := great8_lok hg hl.2; have nl := great8_len hg
  by_cases h1 : (leaf.length : Int) > 300
  · exact Evl.pos h1 out
  refine Evl.neg h1 (Evl.bind (greatE p hp.1) ?_); cases hg2 : greatD p; rotate_left
  · exact out
  have np := great_len hg2; (have hF : leaf.length ≤ 300 ∧ ∀ x ∈ leaf, 0 ≤ x ∧ x < 256 := ⟨by omega, rf⟩); (obtain ⟨b, hb, hbi⟩ := fair8E l i p (by omega) (by omega)); (refine Evl.step (fun _ => rubricklaw08_ClashLeaf.j0.eq_2 ..) (Evl.neg (by decide) ?_))
  by_cases hfair : fairD l i p
  · obtain ⟨h0, h2, okp, hs⟩ := hfair
    (have hx := fst_len (pairs_len l.length l i.toNat leaf p rfl (by omega) ok hF.1 hs okp)); (refine Evl.bind (cleafE l i leaf p (by omega) ok hF (by omega) ⟨h0, h2, okp, hs⟩) (Evl.bind hb (Evl.pos (hbi.2 ⟨h0, h2, okp, hs⟩) ?_))); (have hr := rleaf8E l.length l i.toNat leaf p rfl (by omega) (by omega) ok hF hs (by omega) okp); (rw [show ((i.toNat : Nat) : Int) = i by omega] at hr); (exact Evl.bind hr (Evl.bind (sameE8 _ fst_is (Nat.le_trans hx.1 (by decide)) (Nat.le_trans hx.2 (by decide))) (Evl.pos rfl knows08E)))
  · exact Evl.bind (cleafE_no l i leaf p (by omega) ok hF (by omega) hfair) (Evl.bind hb (Evl.neg (fun h => hfair (hbi.1 h)) (Evl.neg (by decide) (Evl.pos rfl (Evl.pos rfl knows08E)))))
end Go.Proofs.YtpmefpdafkbphaaDoor.Pure

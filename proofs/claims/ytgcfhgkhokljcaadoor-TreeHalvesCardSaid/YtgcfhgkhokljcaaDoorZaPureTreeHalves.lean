import Derived.Test.YtgcfhgkhokljcaaDoorZaPTreeHalves
import Derived.Test.YtgcfhgkhokljcaaDoorZaPureTreeK
namespace Go.Proofs.YtgcfhgkhokljcaaDoor.Pure
open Go.RowKit Go.Proofs.YtgcfhgkhokljcaaDoor.HSha Go.Proofs.YtgcfhgkhokljcaaDoor.PS Go.Proofs.YtgcfhgkhokljcaaDoor.PB Go.Proofs.YtgcfhgkhokljcaaDoor.PC Go.Proofs.YtgcfhgkhokljcaaDoor.PK Go.Proofs.YtgcfhgkhokljcaaDoor.PureS Go.Proofs.YtgcfhgkhokljcaaDoor.PureO Go.Proofs.YtgcfhgkhokljcaaDoor.PureTree Go.Proofs.YtgcfhgkhokljcaaDoor.Thy Go.Proofs.YtgcfhgkhokljcaaDoor.Evl Go.Proofs.YtgcfhgkhokljcaaDoor.PTreeHalves Go.Proofs.YtgcfhgkhokljcaaDoorW.PrintWords Go.Proofs.YtgcfhgkhokljcaaDoorW.PrintLast
set_option linter.unusedVariables false
theorem TreeHalves (l : List (List Int)) (hl : l.length ≤ 9223372036854775807 ∧ ∀ x ∈ l, x.length ≤ 9223372036854775807 ∧ ∀ y ∈ x, (Lit.int .u8 y).wf = true) : ∃ k, rubricklaw06_TreeHalves.f k l = some true := by
  refine Evl.ex (f := fun k => rubricklaw06_TreeHalves.f k l) ?_
  unfold rubricklaw06_TreeHalves.f
  refine Evl.bind (digsE l hl.1 (bytesOk_of hl.2) 60 (by omega)) (Evl.bind (splitE _) ?_)
  have hd := digs_len l 60
  have ok := digs_ok l 60
  obtain ⟨d, hdd⟩ : ∃ d, digs l 60 = d := ⟨_, rfl⟩
  rw [hdd] at hd ok ⊢
  by_cases h2 : (d.length : Int) < 2
  · exact Evl.pos h2 (Evl.pos (by unfold splitN; rw [if_pos (.inl h2)]) knows06E)
  refine Evl.neg h2 ?_
  have k1 := sp_lt (n := d.length) (by omega)
  have k2 := sp_pos d.length
  have k3 := sp_ge (n := d.length) (by omega)
  rw [splitN_nat (n := d.length) (by omega) (by omega)]
  refine Evl.neg (by omega) (Evl.neg (by omega) ?_)
  rw [decide_eq_false (show ¬ wrap64 (2 * (sp d.length : Int)) < (d.length : Int) by rw [wN (by omega) (by omega)]; omega)]
  have ok1 := okD_take ok (sp d.length)
  have ok2 := okD_drop ok (sp d.length)
  refine Evl.step (fun _ => rubricklaw06_TreeHalves.j0.eq_2 ..) (Evl.neg (by simp) (Evl.bind ((rangeE d (by omega) 0 (sp d.length : Int)).cast (s := (rootD (d.take (sp d.length)), 0)) ?_) (Evl.bind ((rangeE d (by omega) (sp d.length : Int) (d.length : Int)).cast (s := (rootD (d.drop (sp d.length)), 0)) ?_) (Evl.bind ((trootE d (by omega)).cast (if_pos ok)) (Evl.bind ((nodeE _ _).cast (if_pos ⟨rootD_size _ _ rfl ok1, rootD_size _ _ rfl ok2⟩)) (Evl.pos rfl (Evl.pos rfl (Evl.pos rfl (Evl.pos rfl (Evl.pos ?_ knows06E))))))))))
  · rw [if_pos ⟨by omega, by omega, by omega⟩, Int.toNat_natCast, show (0 : Int).toNat = 0 from rfl, List.drop_zero, if_pos ok1]
  · rw [if_pos ⟨by omega, by omega, by omega⟩, Int.toNat_natCast, Int.toNat_natCast, List.take_length, if_pos ok2]
  · show (nodeD (rootD (d.take (sp d.length))) (rootD (d.drop (sp d.length)))).toList = (rootD d).toList
    unfold rootD
    rw [root_two nodeD emptyD (l := d) (by omega)]
end Go.Proofs.YtgcfhgkhokljcaaDoor.Pure

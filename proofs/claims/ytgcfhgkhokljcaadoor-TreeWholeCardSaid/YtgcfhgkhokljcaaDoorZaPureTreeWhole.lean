import Derived.Test.YtgcfhgkhokljcaaDoorZaPTreeWhole
import Derived.Test.YtgcfhgkhokljcaaDoorZaPureTreeK
namespace Go.Proofs.YtgcfhgkhokljcaaDoor.Pure
open Go.RowKit Go.Proofs.YtgcfhgkhokljcaaDoor.HSha Go.Proofs.YtgcfhgkhokljcaaDoor.PS Go.Proofs.YtgcfhgkhokljcaaDoor.PB Go.Proofs.YtgcfhgkhokljcaaDoor.PC Go.Proofs.YtgcfhgkhokljcaaDoor.PK Go.Proofs.YtgcfhgkhokljcaaDoor.PureS Go.Proofs.YtgcfhgkhokljcaaDoor.PureO Go.Proofs.YtgcfhgkhokljcaaDoor.PureTree Go.Proofs.YtgcfhgkhokljcaaDoor.Thy Go.Proofs.YtgcfhgkhokljcaaDoor.Evl Go.Proofs.YtgcfhgkhokljcaaDoor.PTreeWhole Go.Proofs.YtgcfhgkhokljcaaDoorW.PrintWords Go.Proofs.YtgcfhgkhokljcaaDoorW.PrintLast
set_option linter.unusedVariables false
theorem whole_loop (d : List ByteArray) (hd : d.length ≤ 60) (ok : okD d = true) (x : ByteArray) (hx : x = rootD d) : ∀ m i : Nat, i + m = d.length → Evl (fun k => rubricklaw06_TreeWhole.l0 k d x (i : Int)) true
  | 0, i, h => by
    refine Evl.step (fun _ => rubricklaw06_TreeWhole.l0.eq_2 ..) (Evl.neg (by omega) ?_)
    by_cases h0 : (d.length : Int) = 0
    · refine Evl.pos h0 (Evl.bind (sumE [] (by simp)) (Evl.pos ?_ knows06E))
      have : d = [] := List.length_eq_zero_iff.mp (by omega)
      subst this
      rw [hx]
      unfold rootD
      rw [root_nil]
      rfl
    · refine Evl.neg h0 ?_
      rw [wN (n := (d.length : Int) - 1) (by omega) (by omega), show (d.length : Int) - 1 = ((d.length - 1 : Nat) : Int) by omega]
      have hp := path_len nodeD emptyD d.length d (d.length - 1) rfl (by omega)
      refine Evl.bind ((tpathE d (by omega) ((d.length - 1 : Nat) : Int)).cast (by rw [if_pos ⟨ok, by omega, by omega⟩, Int.toNat_natCast])) (Evl.pos rfl (Evl.bind (rstepsE d.length (d.length - 1) (by omega) (by omega)) (Evl.pos (by show ((path nodeD emptyD d (d.length - 1)).length : Int) = (steps (d.length - 1) d.length : Int); omega) knows06E)))
  | m + 1, i, h => by
    have hi : i < d.length := by omega
    refine Evl.step (fun _ => rubricklaw06_TreeWhole.l0.eq_2 ..) (Evl.pos (by omega) ?_)
    rw [w1 i (by omega), rd_at _ d i hi]
    have e : (d.take (i + 1)).drop i = [d[i]] := by
      rw [List.take_succ_eq_append_getElem hi, List.drop_append_of_le_length (by rw [List.length_take]; omega), List.drop_eq_nil_of_le (by rw [List.length_take]; omega), List.nil_append]
    have okc : okD [d[i]] = true := by rw [← e]; exact okD_drop (okD_take ok _) _
    refine Evl.bind ((rangeE d (by omega) (i : Int) ((i + 1 : Nat) : Int)).cast (s := (d[i], 0)) ?_) (Evl.pos (by omega) (Evl.pos rfl (Evl.pos rfl (whole_loop d hd ok x hx m (i + 1) (by omega)))))
    rw [if_pos ⟨by omega, by omega, by omega⟩, Int.toNat_natCast, Int.toNat_natCast, e, if_pos okc]
    unfold rootD
    rw [root_one]
theorem TreeWhole (l : List (List Int)) (hl : l.length ≤ 9223372036854775807 ∧ ∀ x ∈ l, x.length ≤ 9223372036854775807 ∧ ∀ y ∈ x, (Lit.int .u8 y).wf = true) : ∃ k, rubricklaw06_TreeWhole.f k l = some true := by
  refine Evl.ex (f := fun k => rubricklaw06_TreeWhole.f k l) ?_
  unfold rubricklaw06_TreeWhole.f
  refine Evl.bind (digsE l hl.1 (bytesOk_of hl.2) 60 (by omega)) ?_
  have hd := digs_len l 60
  have ok := digs_ok l 60
  obtain ⟨d, hdd⟩ : ∃ d, digs l 60 = d := ⟨_, rfl⟩
  rw [hdd] at hd ok ⊢
  refine Evl.bind ((trootE d (by omega)).cast (if_pos ok)) (Evl.bind ((rangeE d (by omega) 0 (d.length : Int)).cast (s := (rootD d, 0)) ?_) (Evl.pos rfl (Evl.pos rfl ?_)))
  · rw [if_pos ⟨by omega, by omega, by omega⟩, Int.toNat_natCast, show (0 : Int).toNat = 0 from rfl, List.drop_zero, List.take_length, if_pos ok]
  · have e : ((rootD d).toList != (rootD d).toList) = false := by simp
    show Evl (fun k => rubricklaw06_TreeWhole.j0 k d (rootD d) ((rootD d).toList != (rootD d).toList)) true
    rw [e]
    exact Evl.step (fun _ => rubricklaw06_TreeWhole.j0.eq_2 ..) (Evl.neg (by simp) (whole_loop d hd ok _ rfl d.length 0 (by omega)))
end Go.Proofs.YtgcfhgkhokljcaaDoor.Pure

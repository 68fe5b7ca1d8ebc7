import Derived.Test.YtgcfhgkhokljcaaDoorZaPTreeBack
import Derived.Test.YtgcfhgkhokljcaaDoorZaPureTreeK
namespace Go.Proofs.YtgcfhgkhokljcaaDoor.Pure
open Go.RowKit Go.Proofs.YtgcfhgkhokljcaaDoor.HSha Go.Proofs.YtgcfhgkhokljcaaDoor.PS Go.Proofs.YtgcfhgkhokljcaaDoor.PB Go.Proofs.YtgcfhgkhokljcaaDoor.PC Go.Proofs.YtgcfhgkhokljcaaDoor.PK Go.Proofs.YtgcfhgkhokljcaaDoor.PureS Go.Proofs.YtgcfhgkhokljcaaDoor.PureO Go.Proofs.YtgcfhgkhokljcaaDoor.PureTree Go.Proofs.YtgcfhgkhokljcaaDoor.Thy Go.Proofs.YtgcfhgkhokljcaaDoor.Evl Go.Proofs.YtgcfhgkhokljcaaDoor.PTreeBack Go.Proofs.YtgcfhgkhokljcaaDoorW.PrintWords Go.Proofs.YtgcfhgkhokljcaaDoorW.PrintLast
set_option linter.unusedVariables false
theorem path_ok : ∀ (n : Nat) (l : List ByteArray) (i : Nat), l.length = n → okD l = true → okD (path nodeD emptyD l i) = true := by
  intro n
  induction n using Nat.strongRecOn with
  | _ n ih =>
    intro l i hl ok
    by_cases h : n < 2
    · rw [path_small nodeD emptyD (by omega)]; rfl
    have k1 := sp_lt (n := n) (by omega)
    have k2 := sp_pos n
    have ok1 := okD_take ok (sp n)
    have ok2 := okD_drop ok (sp n)
    have s1 : (root nodeD emptyD (l.take (sp n))).size = 32 := rootD_size _ _ rfl ok1
    have s2 : (root nodeD emptyD (l.drop (sp n))).size = 32 := rootD_size _ _ rfl ok2
    by_cases hk : i < sp n
    · have e := ih (sp n) k1 (l.take (sp n)) i (by simp; omega) ok1
      rw [path_left nodeD emptyD (by omega) (by rw [hl]; exact hk), hl]
      unfold okD at *
      rw [List.all_append, e]
      simp [s2]
    · have e := ih (n - sp n) (by omega) (l.drop (sp n)) (i - sp n) (by simp; omega) ok2
      rw [path_right nodeD emptyD (by omega) (by rw [hl]; exact hk), hl]
      unfold okD at *
      rw [List.all_append, e]
      simp [s1]
theorem TreeBack (l : List (List Int)) (a : Int) (hl : l.length ≤ 9223372036854775807 ∧ ∀ x ∈ l, x.length ≤ 9223372036854775807 ∧ ∀ y ∈ x, (Lit.int .u8 y).wf = true) (ha : (Lit.int .i64 a).wf = true) : ∃ k, rubricklaw06_TreeBack.f k l a = some true := by
  refine Evl.ex (f := fun k => rubricklaw06_TreeBack.f k l a) ?_
  unfold rubricklaw06_TreeBack.f
  refine Evl.bind (digsE l hl.1 (bytesOk_of hl.2) 60 (by omega)) ?_
  have hd := digs_len l 60
  have ok := digs_ok l 60
  obtain ⟨d, hdd⟩ : ∃ d, digs l 60 = d := ⟨_, rfl⟩
  rw [hdd] at hd ok ⊢
  by_cases h0 : (d.length : Int) = 0
  · exact Evl.pos h0 knows06E
  have e1 : IntKind.u64.wrap (d.length : Int) = (d.length : Int) := by rw [IntKind.wrap_u64]; omega
  rw [e1]
  refine Evl.neg h0 (Evl.neg h0 ?_)
  obtain ⟨m, hm, hlt⟩ : ∃ m : Nat, wrap64 (Int.tmod (IntKind.u64.wrap a) (d.length : Int)) = (m : Int) ∧ m < d.length := by
    have h1 : 0 ≤ IntKind.u64.wrap a := by rw [IntKind.wrap_u64]; omega
    rw [Int.tmod_eq_emod_of_nonneg h1]
    have h2 := Int.emod_nonneg (IntKind.u64.wrap a) (show (d.length : Int) ≠ 0 by omega)
    have h3 := Int.emod_lt_of_pos (IntKind.u64.wrap a) (show (0 : Int) < (d.length : Int) by omega)
    exact ⟨(IntKind.u64.wrap a % (d.length : Int)).toNat, by rw [wN (by omega) (by omega)]; omega, by omega⟩
  rw [hm]
  refine Evl.bind ((tpathE d (by omega) (m : Int)).cast (by rw [if_pos ⟨ok, by omega, by omega⟩, Int.toNat_natCast])) (Evl.bind ((trootE d (by omega)).cast (if_pos ok)) (Evl.pos (by omega) (Evl.pos (by omega) ?_)))
  rw [rd_at _ d m hlt]
  have hx : d[m].size = 32 := okD_mem ok (List.getElem_mem hlt)
  have hp := path_len nodeD emptyD d.length d m rfl hlt
  have hc := climb_path nodeD emptyD d.length d m d[m] rfl (List.getElem?_eq_getElem hlt)
  have hs := steps_le 40 d.length m (by omega) hlt
  refine Evl.bind ((tclimbE d[m] (m : Int) (d.length : Int) (path nodeD emptyD d m) (by omega)).cast (s := (rootD d, 0)) ?_) ?_
  · unfold climbA
    rw [if_pos ⟨hx, by omega, by omega, by omega, by omega⟩, Int.toNat_natCast, Int.toNat_natCast, if_pos ⟨hp, path_ok _ _ _ rfl ok⟩, hc]
    rfl
  · exact Evl.pos rfl (Evl.pos rfl (Evl.pos rfl (Evl.pos rfl (Evl.pos (by rw [rootD_size _ _ rfl ok]; rfl) knows06E))))
end Go.Proofs.YtgcfhgkhokljcaaDoor.Pure

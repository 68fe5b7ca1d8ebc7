/- The law ShaBad in plain Lean. -/
import Derived.Test.YtjcfimnijpcjmaaDoorPShaBad1
import Derived.Test.YtjcfimnijpcjmaaDoorPureK
import Derived.Test.YtjcfimnijpcjmaaDoorPureR
namespace Go.Proofs.YtjcfimnijpcjmaaDoor.Pure
open Go.RowKit Go.Proofs.YtjcfimnijpcjmaaDoor.HSha Go.Proofs.YtjcfimnijpcjmaaDoor.PS Go.Proofs.YtjcfimnijpcjmaaDoor.PX Go.Proofs.YtjcfimnijpcjmaaDoor.PK Go.Proofs.YtjcfimnijpcjmaaDoor.PR Go.Proofs.YtjcfimnijpcjmaaDoor.PureS Go.Proofs.YtjcfimnijpcjmaaDoor.PureK Go.Proofs.YtjcfimnijpcjmaaDoor.PureR Go.Proofs.YtjcfimnijpcjmaaDoor.PShaBad Go.Proofs.YtjcfimnijpcjmaaDoorW.PrintWords Go.Proofs.YtjcfimnijpcjmaaDoorW.PrintLast
theorem bad_early (l : List Int) (n : Int) (b : List Int) : rubricklaw01_ShaBad.j0 3000 l n b true = some true := by
  rw [show (3000 : Nat) = 2999 + 1 from rfl]
  simp only [rubricklaw01_ShaBad.j0, if_true]
  rw [knows01U 2999 (by omega)]
  rfl
theorem end_bad (v : V8) (l : List Int) (n : Int) (h : rightB l.length n = false) : endOf v l n = shaSum [] := by
  unfold endOf
  rw [h]
  rfl
theorem end_after (b : List Int) (hb : b.length ≤ 1000) : endOf (absorbs init b).1 (absorbs init b).2 (b.length : Int) = shaSum b := by
  have h : rightB (absorbs init b).2.length (b.length : Int) = true := rightB_true (by omega) (by omega) (by rw [absorbs_len]; omega)
  unfold endOf
  rw [h]
  rfl
theorem bad_late (l : List Int) (n : Int) (b : List Int) (hb : ∀ x ∈ b, 0 ≤ x ∧ x < 256) (hl : l.length ≤ 1000) (hl2 : b.length ≤ 1000) (h : rightB l.length n = false) : rubricklaw01_ShaBad.j0 3000 l n b false = some true := by
  have hk := knows01U 2999 (by omega)
  have ho : addOk l n b.length = false := by unfold addOk; rw [h]; rfl
  rw [show (3000 : Nat) = 2999 + 1 from rfl]
  simp only [rubricklaw01_ShaBad.j0, Bool.false_eq_true, if_false]
  unfold sha_End.f sha_Add.f
  rw [end_bad _ _ _ h, refF [] (by simp) (by simp) 2999 (by simp), refF b hb (by omega) 2999 (by omega), if_pos (by omega)]
  simp only [Option.bind_some, addOf, ho, Bool.false_eq_true, if_false, flat, vof]
  rw [show (⟨(absorbs init b).1.a, (absorbs init b).1.b, (absorbs init b).1.c, (absorbs init b).1.d, (absorbs init b).1.e, (absorbs init b).1.f, (absorbs init b).1.g, (absorbs init b).1.h⟩ : V8) = (absorbs init b).1 from rfl, end_after b hl2, if_pos trivial, if_pos rfl, hk]
  rfl
theorem ShaBad : rubricklaw01_ShaBad.Pure := by
  intro l0 a1 l2 h1 h2 hw0 hwa h3 h4 hw2
  refine ⟨3000, ?_⟩
  unfold rubricklaw01_ShaBad.f
  by_cases hg : (l0.length : Int) > 1000
  · rw [if_pos hg]; exact bad_early _ _ _
  · rw [if_neg hg]
    by_cases hg2 : (l2.length : Int) > 1000
    · rw [if_pos hg2]; exact bad_early _ _ _
    · rw [if_neg hg2]
      have late := bad_late l0 a1 l2 (bytes_wf hw2) (by omega) (by omega)
      by_cases h0 : a1 ≥ 0
      · rw [if_pos h0]
        by_cases hm : a1 ≤ 1099511627776
        · rw [if_pos hm, Int.tmod_eq_emod_of_nonneg h0]
          cases he : ((l0.length : Int) == a1 % 64)
          · refine late ?_
            have := beq_eq_false_iff_ne.mp he
            simp only [rightB, Bool.and_eq_false_iff, decide_eq_false_iff_not]
            exact .inr this
          · exact bad_early _ _ _
        · rw [if_neg hm]
          refine late ?_
          simp only [rightB, Bool.and_eq_false_iff, decide_eq_false_iff_not]
          exact .inl (.inr hm)
      · rw [if_neg h0]
        refine late ?_
        simp only [rightB, Bool.and_eq_false_iff, decide_eq_false_iff_not]
        exact .inl (.inl h0)
end Go.Proofs.YtjcfimnijpcjmaaDoor.Pure

import Derived.Test.YtpmefpdafkbphaaDoorZrPClashRoots
import Derived.Test.YtpmefpdafkbphaaDoorZrPureClashK
import Derived.Test.YtpmefpdafkbphaaDoorZrPureClash2
namespace Go.Proofs.YtpmefpdafkbphaaDoor.Pure
open Go.RowKit Go.Proofs.YtpmefpdafkbphaaDoor.HSha Go.Proofs.YtpmefpdafkbphaaDoor.PS Go.Proofs.YtpmefpdafkbphaaDoor.PT Go.Proofs.YtpmefpdafkbphaaDoor.PB Go.Proofs.YtpmefpdafkbphaaDoor.PC Go.Proofs.YtpmefpdafkbphaaDoor.PQ Go.Proofs.YtpmefpdafkbphaaDoor.PL Go.Proofs.YtpmefpdafkbphaaDoor.PClashRoots Go.Proofs.YtpmefpdafkbphaaDoor.PureS Go.Proofs.YtpmefpdafkbphaaDoor.PureO Go.Proofs.YtpmefpdafkbphaaDoor.PureSealU Go.Proofs.YtpmefpdafkbphaaDoor.PureTree Go.Proofs.YtpmefpdafkbphaaDoor.PureClash Go.Proofs.YtpmefpdafkbphaaDoor.Thy Go.Proofs.YtpmefpdafkbphaaDoor.Evl Go.Proofs.YtpmefpdafkbphaaDoorW.PrintWords Go.Proofs.YtpmefpdafkbphaaDoorW.PrintLast Go.Proofs.YtpmefpdafkbphaaDoorW.PrintMore
set_option linter.unusedVariables false
theorem ClashRoots (a b : List (List Int)) (hla : a.length ≤ 9223372036854775807 ∧ ∀ x ∈ a, x.length ≤ 9223372036854775807 ∧ ∀ y ∈ x, (Lit.int .u8 y).wf = true) (hlb : b.length ≤ 9223372036854775807 ∧ ∀ x ∈ b, x.length ≤ 9223372036854775807 ∧ ∀ y ∈ x, (Lit.int .u8 y).wf = true) : ∃ k, rubricklaw08_ClashRoots.f k a b = some true := by
  refine Evl.ex (f := fun k => rubricklaw08_ClashRoots.f k a b) ?_
  have out : Evl (fun k => rubricklaw08_ClashRoots.j0 k a b true) true := Evl.step (fun _ => rubricklaw08_ClashRoots.j0.eq_2 ..) (Evl.pos rfl knows08E)
  unfold rubricklaw08_ClashRoots.f
  refine Evl.bind (great8E a hla.1) ?_
  cases hg : great8 a
  rotate_left
  · exact Evl.pos rfl out
  refine Evl.neg (by decide) (Evl.bind (great8E b hlb.1) ?_)
  cases hg2 : great8 b
  rotate_left
  · exact out
  have oka := great8_lok hg hla.2
  have okb := great8_lok hg2 hlb.2
  have na := great8_len hg
  have nb := great8_len hg2
  have self : Evl (fun k => clash_Two.f k a a) (if 1 ≤ a.length then twoD a a else ([], [], false)) := by
    by_cases h : 1 ≤ a.length
    · rw [if_pos h]; exact twoE _ a a rfl rfl h (by omega) oka oka
    · rw [if_neg h]; exact twoE_no a a fun h2 => h h2.2
  have selfno : ¬ (if 1 ≤ a.length then twoD a a else (([] : Bs), ([] : Bs), false)).2.2 = true := by
    split
    · rw [twoD_self _ a rfl]; decide
    · decide
  -- the last part, of a clash that is one or is none
  have tail : ∀ t : C3, (t.2.2 = true → isB t.1 t.2.1 = true) → t.1.length ≤ 1000 → t.2.1.length ≤ 1000 → (t.2.2 = true → a ≠ b) → Evl (fun k => rubricklaw08_ClashRoots.j1 k a b t.2.2 false t.1 t.2.1) true := fun t h1 h2 h3 h4 => by
    refine Evl.step (fun _ => rubricklaw08_ClashRoots.j1.eq_2 ..) (Evl.neg (by decide) ?_)
    by_cases h : t.2.2 = true
    · refine Evl.pos h ?_
      rw [isF _ _ (by omega) (by omega)]
      refine Evl.some_bind (Evl.pos (h1 h) (Evl.bind (likeE a b (by omega) oka okb) (Evl.neg ?_ knows08E)))
      intro e
      exact h4 h (of_decide_eq_true e)
    · exact Evl.neg h knows08E
  refine Evl.step (fun _ => rubricklaw08_ClashRoots.j0.eq_2 ..) (Evl.neg (by decide) ?_)
  by_cases e : a.length = b.length
  rotate_left
  · refine Evl.bind (twoE_no a b fun h => e h.1) (Evl.bind self (Evl.neg selfno (Evl.neg (by omega) ?_)))
    exact tail ([], [], false) (fun h => by cases h) (by simp) (by simp) (fun h => by cases h)
  by_cases e1 : 1 ≤ a.length
  rotate_left
  · have ea : a = [] := List.eq_nil_of_length_eq_zero (by omega)
    have eb : b = [] := List.eq_nil_of_length_eq_zero (by omega)
    refine Evl.bind (twoE_no a b fun h => e1 h.2) (Evl.bind self (Evl.neg selfno (Evl.pos (by omega) (Evl.bind (likeE a b (by omega) oka okb) ?_))))
    rw [decide_eq_true (show a = b by rw [ea, eb])]
    exact Evl.pos rfl (tail ([], [], false) (fun h => by cases h) (by simp) (by simp) (fun h => by cases h))
  have tl := twoD_len _ a b rfl oka okb
  refine Evl.bind (twoE _ a b rfl e.symm e1 (by omega) oka okb) (Evl.bind self (Evl.neg selfno (Evl.pos (by omega) (Evl.bind (likeE a b (by omega) oka okb) ?_))))
  by_cases hab : a = b
  · rw [decide_eq_true hab]
    refine Evl.pos rfl (tail (twoD a b) (twoD_is _ a b rfl) (by omega) (by omega) (fun h => ?_))
    rw [← hab, twoD_self _ a rfl] at h
    cases h
  rw [decide_eq_false hab]
  refine Evl.neg (by decide) (Evl.bind (rleavesE a (by omega) oka) (Evl.bind (rrootE _ (dg a) rfl (by rw [dg_len]; omega) (dg_ok a)) (Evl.bind (rleavesE b (by omega) okb) (Evl.bind (rrootE _ (dg b) rfl (by rw [dg_len]; omega) (dg_ok b)) ?_))))
  by_cases hr : (rootD (dg a)).toList = (rootD (dg b)).toList
  · rw [beq_iff_eq.2 hr]
    have ht : (twoD a b).2.2 = true := by
      cases hh : (twoD a b).2.2
      · exact absurd (two_finds _ a b rfl e.symm e1 oka okb hh (toList_inj hr)) hab
      · rfl
    refine Evl.step (fun _ => rubricklaw08_ClashRoots.j1.eq_2 ..) (Evl.pos rfl (Evl.pos ht ?_))
    rw [isF _ _ (by omega) (by omega)]
    exact Evl.some_bind (Evl.pos (twoD_is _ a b rfl ht) knows08E)
  · rw [beq_eq_false_iff_ne.2 hr]
    exact tail (twoD a b) (twoD_is _ a b rfl) (by omega) (by omega) (fun _ => hab)
end Go.Proofs.YtpmefpdafkbphaaDoor.Pure

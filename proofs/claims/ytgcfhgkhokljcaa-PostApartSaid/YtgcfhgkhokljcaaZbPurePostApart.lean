import Derived.Test.YtgcfhgkhokljcaaZbPPostApart
import Derived.Test.YtgcfhgkhokljcaaZbPurePost3
namespace Go.Proofs.Ytgcfhgkhokljcaa.Pure
open Go.RowKit Go.Proofs.Ytgcfhgkhokljcaa.PA Go.Proofs.Ytgcfhgkhokljcaa.PPostApart Go.Proofs.Ytgcfhgkhokljcaa.Evl Go.Proofs.Ytgcfhgkhokljcaa.PurePost Go.Proofs.YtgcfhgkhokljcaaW.PrintWords Go.Proofs.YtgcfhgkhokljcaaW.PrintLast Go.Proofs.YtgcfhgkhokljcaaW.PrintMore
set_option linter.unusedVariables false
theorem str_list (l : List Int) : (strOfNums l).toList = l.map fun x => UInt8.ofNat x.toNat := by
  rw [ByteArray.toList_eq]
  simp [strOfNums]
theorem str_inj {a b : List Int} (ha : ∀ x ∈ a, 0 ≤ x ∧ x < 256) (hb : ∀ x ∈ b, 0 ≤ x ∧ x < 256) (h : (strOfNums a).toList = (strOfNums b).toList) : a = b := by
  rw [str_list, str_list] at h
  have e : ∀ l : List Int, (∀ x ∈ l, 0 ≤ x ∧ x < 256) → (l.map fun x => UInt8.ofNat x.toNat).map (fun b : UInt8 => (b.toNat : Int)) = l := by
    intro l hl
    rw [List.map_map]
    have : ∀ x ∈ l, ((fun b : UInt8 => (b.toNat : Int)) ∘ fun x : Int => UInt8.ofNat x.toNat) x = x := by
      intro x hx
      have := hl x hx
      simp only [Function.comp, UInt8.toNat_ofNat']
      omega
    exact (List.map_congr_left this).trans (List.map_id l)
  rw [← e a ha, ← e b hb, h]
theorem gaps_pre : ∀ (a b : List Int) (last : Int) (s : List Int), a.length = b.length → rightFrom last a = true → rightFrom last b = true → gapsE last a ++ s = gapsE last b → a = b
  | [], [], _, _, _, _, _, _ => rfl
  | [], _ :: _, _, _, h, _, _, _ => by simp at h
  | _ :: _, [], _, _, h, _, _, _ => by simp at h
  | x :: a, y :: b, last, s, h, ha, hb, e => by
    rw [rightFrom] at ha hb
    split at ha
    · cases ha
    split at ha
    · cases ha
    split at hb
    · cases hb
    split at hb
    · cases hb
    rw [gapsE, gapsE, List.append_assoc] at e
    have h1 := numE_app _ _ _ _ e
    have hxy : x = y := by omega
    subst hxy
    rw [gaps_pre a b x s (by simpa using h) ha hb h1.2]
theorem write_pre (a b s : List Int) (ha : rightFrom (-1) a = true) (hb : rightFrom (-1) b = true) (e : writeL a ++ s = writeL b) : a = b := by
  unfold writeL at e
  rw [List.append_assoc] at e
  have h := numE_app _ _ _ _ e
  exact gaps_pre a b (-1) s h.1 ha hb h.2
theorem write_range (l : List Int) : ∀ x ∈ writeL l, 0 ≤ x ∧ x < 256 := fun x hx => by
  unfold writeL at hx
  rcases List.mem_append.1 hx with h | h
  · exact numE_range _ x h
  · exact gaps_range _ _ x h
theorem PostApart : rubricklaw09_PostApart.Pure := by
  intro l0 l1 _ _ hw0 _ _ hw1
  refine Evl.ex ?_
  unfold rubricklaw09_PostApart.f rubricklaw09_great.f
  refine Evl.some_bind ?_
  have out : ∀ a b : List Int, Evl (fun k => rubricklaw09_PostApart.j0 k a b true) true := fun a b => Evl.step (fun _ => rubricklaw09_PostApart.j0.eq_2 ..) (Evl.pos rfl knows09E)
  by_cases hg : (l0.length : Int) > 300
  · rw [decide_eq_true hg]
    exact Evl.pos rfl (out _ _)
  rw [decide_eq_false hg]
  refine Evl.neg (by decide) (Evl.some_bind ?_)
  by_cases hg2 : (l1.length : Int) > 300
  · rw [decide_eq_true hg2]
    exact out _ _
  rw [decide_eq_false hg2]
  refine Evl.step (fun _ => rubricklaw09_PostApart.j0.eq_2 ..) (Evl.neg (by decide) (Evl.bind (writeE l0 (by omega)) (Evl.bind (writeE l1 (by omega)) ?_)))
  have out2 : ∀ a b c d : List Int, Evl (fun k => rubricklaw09_PostApart.j1 k a b c d true) true := fun a b c d => Evl.step (fun _ => rubricklaw09_PostApart.j1.eq_2 ..) (Evl.pos rfl knows09E)
  by_cases h0 : rightFrom (-1) l0 = true
  · rw [if_pos h0]
    refine Evl.pos rfl ?_
    by_cases h1 : rightFrom (-1) l1 = true
    · rw [if_pos h1]
      refine Evl.step (fun _ => rubricklaw09_PostApart.j1.eq_2 ..) (Evl.neg (show ¬ ((0 : Int) != 0) = true by decide) (Evl.bind (sameE l0 l1 (by omega)) ?_))
      by_cases hl : ((writeL l0).length : Int) ≤ ((writeL l1).length : Int)
      · refine Evl.pos hl (Evl.pos (by omega) ?_)
        have e : ((strOfNums (writeL l0)).toList == (strOfNums ((writeL l1).take ((writeL l0).length : Int).toNat)).toList) = decide (l0 = l1) := by
          rw [Int.toNat_natCast]
          by_cases hs : l0 = l1
          · subst hs
            rw [List.take_length, decide_eq_true rfl]
            simp
          · rw [decide_eq_false hs]
            refine beq_eq_false_iff_ne.2 fun he => hs ?_
            have := str_inj (write_range l0) (fun x hx => write_range l1 x (List.mem_of_mem_take hx)) he
            refine write_pre l0 l1 ((writeL l1).drop (writeL l0).length) h0 h1 ?_
            conv => lhs; lhs; rw [this]
            exact List.take_append_drop ..
        rw [e]
        exact Evl.pos (by simp) knows09E
      · have hs : l0 ≠ l1 := fun h => hl (by rw [h]; omega)
        refine Evl.neg hl (Evl.pos ?_ knows09E)
        rw [decide_eq_false hs]; rfl
    · rw [if_neg h1]
      exact out2 _ _ _ _
  · rw [if_neg h0]
    exact Evl.neg (by decide) (out2 _ _ _ _)
end Go.Proofs.Ytgcfhgkhokljcaa.Pure

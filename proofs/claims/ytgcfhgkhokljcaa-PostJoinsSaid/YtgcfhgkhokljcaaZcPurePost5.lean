import Derived.Test.YtgcfhgkhokljcaaZcPurePost4
namespace Go.Proofs.Ytgcfhgkhokljcaa.PurePost
open Go.RowKit Go.Proofs.Ytgcfhgkhokljcaa.PA Go.Proofs.Ytgcfhgkhokljcaa.Evl Go.Proofs.YtgcfhgkhokljcaaW.PrintWords Go.Proofs.YtgcfhgkhokljcaaW.PrintLast Go.Proofs.YtgcfhgkhokljcaaW.PrintMore
set_option linter.unusedVariables false
set_option linter.unusedSimpArgs false
/-- The posting ahead of a place. -/
def prev (l : List Int) : Nat → Int
  | 0 => -1
  | i + 1 => l.getD i 0
theorem refRight_loop (l : List Int) (hl : l.length ≤ 1000000000) : ∀ d i : Nat, i + d = l.length → -1 ≤ prev l i → Evl (fun k => rubrickref09_Right.l0 k l (i : Int)) (rightFrom (prev l i) (l.drop i))
  | 0, i, h, hp => by
    refine Evl.step (fun _ => rubrickref09_Right.l0.eq_2 ..) (Evl.neg (by omega) (Evl.ret' ?_))
    rw [List.drop_eq_nil_of_le (by omega)]; rfl
  | d + 1, i, h, hp => by
    have hi : i < l.length := by omega
    refine Evl.step (fun _ => rubrickref09_Right.l0.eq_2 ..) (Evl.pos (by omega) (Evl.pos (by omega) ?_))
    rw [rdi l i hi, w1 i (by omega), List.drop_eq_getElem_cons hi, rightFrom]
    have hn : prev l (i + 1) = l[i] := by
      show l.getD i 0 = _
      rw [List.getD_eq_getElem?_getD, List.getElem?_eq_getElem hi]; rfl
    by_cases h1 : l[i] < 0
    · rw [if_pos (by omega)]; exact Evl.pos h1 (Evl.ret _)
    refine Evl.neg h1 ?_
    by_cases h2 : l[i] > 999
    · refine Evl.pos h2 (Evl.ret' ?_)
      split
      · rfl
      · rw [if_pos (by omega)]
    refine Evl.neg h2 ?_
    have ih := refRight_loop l hl d (i + 1) (by omega) (by rw [hn]; omega)
    rw [hn] at ih
    cases i with
    | zero =>
      refine Evl.neg (by omega) ?_
      rw [if_neg (by show ¬ _ ≤ (-1 : Int); omega), if_neg (by omega)]
      exact ih
    | succ j =>
      have hj : j < l.length := by omega
      have e : wrap64 (((j + 1 : Nat) : Int) - 1) = (j : Int) := by unfold wrap64; omega
      have hm : prev l (j + 1) = l[j] := by
        show l.getD j 0 = _
        rw [List.getD_eq_getElem?_getD, List.getElem?_eq_getElem hj]; rfl
      rw [e, rdi l j hj, hm]
      refine Evl.pos (by omega) (Evl.pos (by omega) (Evl.pos (by omega) ?_))
      by_cases h3 : l[j + 1] ≤ l[j]
      · rw [if_pos h3]; exact Evl.pos h3 (Evl.ret _)
      · rw [if_neg h3, if_neg (by omega)]; exact Evl.neg h3 ih
theorem refRightE (l : List Int) (hl : l.length ≤ 1000000000) : Evl (fun k => rubrickref09_Right.f k l) (rightFrom (-1) l) := by
  have := refRight_loop l hl l.length 0 (by omega) (by show (-1 : Int) ≤ -1; omega)
  rw [List.drop_zero] at this
  exact this
theorem refGoodE (l : List Int) (hl : l.length ≤ 1000000000) : Evl (fun k => rubrickref09_Good.f k l) (goodL l) := by
  unfold rubrickref09_Good.f
  refine Evl.bind (refRightE l hl) ?_
  unfold goodL
  cases h : rightFrom (-1) l
  · exact Evl.ret _
  · exact Evl.ret _
theorem has_loop (l : List Int) (z : Int) (hl : l.length ≤ 1000000000) : ∀ d i : Nat, i + d = l.length → Evl (fun k => rubrickref09_Has.l0 k l z (i : Int)) (decide (z ∈ l.drop i))
  | 0, i, h => by
    refine Evl.step (fun _ => rubrickref09_Has.l0.eq_2 ..) (Evl.neg (by omega) (Evl.ret' ?_))
    rw [List.drop_eq_nil_of_le (by omega)]; rfl
  | d + 1, i, h => by
    have hi : i < l.length := by omega
    refine Evl.step (fun _ => rubrickref09_Has.l0.eq_2 ..) (Evl.pos (by omega) (Evl.pos (by omega) ?_))
    rw [rdi l i hi, w1 i (by omega), List.drop_eq_getElem_cons hi]
    by_cases he : l[i] = z
    · exact Evl.pos he (Evl.ret' (decide_eq_true (by rw [he]; exact List.mem_cons_self)).symm)
    · refine Evl.neg he ((has_loop l z hl d (i + 1) (by omega)).cast (decide_eq_decide.2 ?_))
      rw [List.mem_cons]
      exact ⟨.inr, fun h => h.resolve_left fun h => he h.symm⟩
theorem hasE (l : List Int) (z : Int) (hl : l.length ≤ 1000000000) : Evl (fun k => rubrickref09_Has.f k l z) (decide (z ∈ l)) := by
  have := has_loop l z hl l.length 0 (by omega)
  rw [List.drop_zero] at this
  exact this
/-- d numbers from i on. -/
def rng : Nat → Nat → List Int
  | _, 0 => []
  | i, d + 1 => (i : Int) :: rng (i + 1) d
theorem rng_mem : ∀ (d i : Nat) (z : Int), z ∈ rng i d ↔ (i : Int) ≤ z ∧ z < (i : Int) + d
  | 0, i, z => by simp [rng]
  | d + 1, i, z => by
    rw [rng, List.mem_cons, rng_mem d (i + 1) z]
    omega
theorem rng_right (P : Int → Bool) : ∀ (d i : Nat) (last : Int), last < i → i + d ≤ 1000 → rightFrom last ((rng i d).filter P) = true
  | 0, i, last, _, _ => rfl
  | d + 1, i, last, h, h2 => by
    rw [rng, List.filter_cons]
    have ih := rng_right P d (i + 1) (i : Int) (by omega) (by omega)
    split
    · exact right_of h (by omega) ih
    · exact right_up _ _ _ ih (by omega)
def kindOp (c : Int) : Bool → Bool → Bool := if c = 0 then opB else if c = 1 then opE else opN
theorem pick_loop (a b : List Int) (ha : a.length ≤ 1000000000) (hb : b.length ≤ 1000000000) (c : Int) (hc : c = 0 ∨ c = 1 ∨ c = 2) : ∀ (d i : Nat) (acc : List Int), i + d = 1000 → acc.length ≤ i →
    Evl (fun k => rubrickref09_Pick.l0 k a b c acc (i : Int)) (acc ++ (rng i d).filter fun z => kindOp c (decide (z ∈ a)) (decide (z ∈ b)))
  | 0, i, acc, h, hl => by
    refine Evl.step (fun _ => rubrickref09_Pick.l0.eq_2 ..) (Evl.neg (by omega) (Evl.ret' ?_))
    simp [rng]
  | d + 1, i, acc, h, hl => by
    refine Evl.step (fun _ => rubrickref09_Pick.l0.eq_2 ..) (Evl.pos (by omega) (Evl.bind (hasE a _ ha) (Evl.bind (hasE b _ hb) ?_)))
    rw [w1 i (by omega), rng, List.filter_cons]
    have push := (pick_loop a b ha hb c hc d (i + 1) (acc ++ [(i : Int)]) (by omega) (by rw [List.length_append, List.length_singleton]; omega))
    have skip := (pick_loop a b ha hb c hc d (i + 1) acc (by omega) (by omega))
    rw [List.append_assoc] at push
    have put : Evl (fun k => if acc.length < 17592186044416 then rubrickref09_Pick.l0 k a b c (acc ++ [(i : Int)]) ((i + 1 : Nat) : Int) else none) (acc ++ ((i : Int) :: (rng (i + 1) d).filter fun z => kindOp c (decide (z ∈ a)) (decide (z ∈ b)))) := Evl.pos (by omega) push
    clear push
    generalize decide ((i : Int) ∈ a) = p at *
    generalize decide ((i : Int) ∈ b) = q at *
    rcases hc with rfl | rfl | rfl
    · cases p <;> cases q <;> (simp only [kindOp, opB, opE, opN, ↓reduceIte, Bool.false_eq_true, Bool.and_true, Bool.and_false, Bool.not_true, Bool.not_false, Bool.or_true, Bool.or_false, Bool.true_and, Bool.false_and, show ¬ (0 : Int) = 1 by decide, show ¬ (0 : Int) = 2 by decide]; first | exact put | exact skip)
    · cases p <;> cases q <;> (simp only [kindOp, opB, opE, opN, ↓reduceIte, Bool.false_eq_true, Bool.or_self, Bool.or_true, Bool.or_false, Bool.true_or, show ¬ (1 : Int) = 0 by decide, show ¬ (1 : Int) = 2 by decide]; first | exact put | exact skip)
    · cases p <;> cases q <;> (simp only [kindOp, opB, opE, opN, ↓reduceIte, Bool.false_eq_true, Bool.and_true, Bool.and_false, Bool.not_true, Bool.not_false, Bool.true_and, Bool.false_and, show ¬ (2 : Int) = 0 by decide, show ¬ (2 : Int) = 1 by decide]; first | exact put | exact skip)
def pickL (c : Int) (a b : List Int) : List Int := (rng 0 1000).filter fun z => kindOp c (decide (z ∈ goodL a)) (decide (z ∈ goodL b))
theorem pickE (a b : List Int) (ha : a.length ≤ 100000000) (hb : b.length ≤ 100000000) (c : Int) (hc : c = 0 ∨ c = 1 ∨ c = 2) : Evl (fun k => rubrickref09_Pick.f k a b c) (pickL c a b) := by
  unfold rubrickref09_Pick.f
  have h1 := goodL_len a
  have h2 := goodL_len b
  exact Evl.bind (refGoodE a (by omega)) (Evl.bind (refGoodE b (by omega)) ((pick_loop (goodL a) (goodL b) (by omega) (by omega) c hc 1000 0 [] rfl (by simp)).cast (List.nil_append _)))
theorem pick_right (c : Int) (a b : List Int) : rightFrom (-1) (pickL c a b) = true := rng_right _ 1000 0 (-1) (by omega) (by omega)
theorem good_range {l : List Int} {z : Int} (h : z ∈ goodL l) : 0 ≤ z ∧ z < 1000 := by
  have := right_mem _ _ _ (goodL_right l) h
  omega
theorem pick_mem (c : Int) (a b : List Int) (z : Int) : z ∈ pickL c a b ↔ (0 ≤ z ∧ z < 1000) ∧ kindOp c (decide (z ∈ goodL a)) (decide (z ∈ goodL b)) = true := by
  unfold pickL
  rw [List.mem_filter, rng_mem]
  constructor
  · rintro ⟨h1, h2⟩; exact ⟨by omega, h2⟩
  · rintro ⟨h1, h2⟩; exact ⟨by omega, h2⟩
theorem both_pick (a b : List Int) : bothL a b = pickL 0 a b := by
  refine right_ext _ _ _ (both_right a b) (pick_right _ a b) fun z => ?_
  rw [both_mem, pick_mem]
  simp only [kindOp, ↓reduceIte, opB, Bool.and_eq_true, decide_eq_true_eq]
  exact ⟨fun h => ⟨good_range h.1, h⟩, fun h => h.2⟩
theorem either_pick (a b : List Int) : eitherL a b = pickL 1 a b := by
  refine right_ext _ _ _ (either_right a b) (pick_right _ a b) fun z => ?_
  rw [either_mem, pick_mem]
  simp only [kindOp, ↓reduceIte, opE, Bool.or_eq_true, decide_eq_true_eq, show ¬ (1 : Int) = 0 by decide]
  exact ⟨fun h => ⟨h.elim good_range good_range, h⟩, fun h => h.2⟩
theorem but_pick (a b : List Int) : butL a b = pickL 2 a b := by
  refine right_ext _ _ _ (but_right a b) (pick_right _ a b) fun z => ?_
  rw [but_mem, pick_mem]
  simp only [kindOp, ↓reduceIte, opN, Bool.and_eq_true, Bool.not_eq_true', decide_eq_true_eq, decide_eq_false_iff_not, show ¬ (2 : Int) = 0 by decide, show ¬ (2 : Int) = 1 by decide]
  exact ⟨fun h => ⟨good_range h.1, h⟩, fun h => h.2⟩
/-- A span's postings. -/
def inL (l : List Int) (lo hi : Int) : List Int := (goodL l).filter fun z => decide (z ≥ lo) && decide (z < hi)
theorem in_loop (l : List Int) (hl : l.length ≤ 1000000000) (lo hi : Int) : ∀ (d i : Nat) (acc : List Int), i + d = l.length → acc.length ≤ i → Evl (fun k => post_In.l0 k acc l (l.length : Int) (i : Int) lo hi) (acc ++ (l.drop i).filter fun z => decide (z ≥ lo) && decide (z < hi))
  | 0, i, acc, h, ha => by
    refine Evl.step (fun _ => post_In.l0.eq_2 ..) (Evl.neg (by omega) (Evl.ret' ?_))
    rw [List.drop_eq_nil_of_le (by omega)]; simp
  | d + 1, i, acc, h, ha => by
    have hi' : i < l.length := by omega
    refine Evl.step (fun _ => post_In.l0.eq_2 ..) (Evl.pos (by omega) (Evl.pos (by omega) (Evl.pos (by omega) ?_)))
    rw [rdi l i hi', w1 i (by omega), List.drop_eq_getElem_cons hi', List.filter_cons]
    have skip := in_loop l hl lo hi d (i + 1) acc (by omega) (by omega)
    by_cases h1 : l[i] ≥ lo
    · refine Evl.pos h1 ?_
      by_cases h2 : l[i] < hi
      · have push := in_loop l hl lo hi d (i + 1) (acc ++ [l[i]]) (by omega) (by rw [List.length_append, List.length_singleton]; omega)
        rw [List.append_assoc] at push
        rw [if_pos (by simp [h1, h2])]
        exact Evl.pos h2 (Evl.pos (by omega) push)
      · rw [if_neg (by simp [h2])]
        exact Evl.neg h2 skip
    · rw [if_neg (by simp [h1])]
      exact Evl.neg h1 skip
theorem inE (l : List Int) (hl : l.length ≤ 100000000) (lo hi : Int) : Evl (fun k => post_In.f k l lo hi) (inL l lo hi) := by
  unfold post_In.f
  have h1 := goodL_len l
  have := in_loop (goodL l) (by omega) lo hi (goodL l).length 0 [] (by omega) (by simp)
  rw [List.drop_zero] at this
  exact Evl.bind (goodE l (by omega)) (this.cast (List.nil_append _))
theorem refIn_loop (l : List Int) (hl : l.length ≤ 1000000000) (lo hi : Int) : ∀ (d i : Nat) (acc : List Int), i + d = l.length → acc.length ≤ i → Evl (fun k => rubrickref09_In.l0 k l acc (i : Int) lo hi) (acc ++ (l.drop i).filter fun z => decide (z ≥ lo) && decide (z < hi))
  | 0, i, acc, h, ha => by
    refine Evl.step (fun _ => rubrickref09_In.l0.eq_2 ..) (Evl.neg (by omega) (Evl.ret' ?_))
    rw [List.drop_eq_nil_of_le (by omega)]; simp
  | d + 1, i, acc, h, ha => by
    have hi' : i < l.length := by omega
    refine Evl.step (fun _ => rubrickref09_In.l0.eq_2 ..) (Evl.pos (by omega) (Evl.pos (by omega) ?_))
    rw [rdi l i hi', w1 i (by omega), List.drop_eq_getElem_cons hi', List.filter_cons]
    have skip := refIn_loop l hl lo hi d (i + 1) acc (by omega) (by omega)
    by_cases h1 : l[i] ≥ lo
    · refine Evl.pos h1 ?_
      by_cases h2 : l[i] < hi
      · have push := refIn_loop l hl lo hi d (i + 1) (acc ++ [l[i]]) (by omega) (by rw [List.length_append, List.length_singleton]; omega)
        rw [List.append_assoc] at push
        rw [if_pos (by simp [h1, h2])]
        exact Evl.pos h2 (Evl.pos (by omega) push)
      · rw [if_neg (by simp [h2])]
        exact Evl.neg h2 skip
    · rw [if_neg (by simp [h1])]
      exact Evl.neg h1 skip
theorem refInE (l : List Int) (hl : l.length ≤ 100000000) (lo hi : Int) : Evl (fun k => rubrickref09_In.f k l lo hi) (inL l lo hi) := by
  unfold rubrickref09_In.f
  have h1 := goodL_len l
  have := refIn_loop (goodL l) (by omega) lo hi (goodL l).length 0 [] (by omega) (by simp)
  rw [List.drop_zero] at this
  exact Evl.bind (refGoodE l (by omega)) (this.cast (List.nil_append _))
theorem in_len (l : List Int) (lo hi : Int) : (inL l lo hi).length ≤ l.length := Nat.le_trans (List.length_filter_le _ _) (goodL_len l)
end Go.Proofs.Ytgcfhgkhokljcaa.PurePost

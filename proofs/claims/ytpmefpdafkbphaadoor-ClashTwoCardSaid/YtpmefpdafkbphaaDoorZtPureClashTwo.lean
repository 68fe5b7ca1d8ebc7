import Derived.Test.YtpmefpdafkbphaaDoorZtPL
import Derived.Test.YtpmefpdafkbphaaDoorZtPureS
import Derived.Test.YtpmefpdafkbphaaDoorZtEvl
import Derived.Test.YtpmefpdafkbphaaDoorZtPClashTwo
import Derived.Test.YtpmefpdafkbphaaDoorZtPureClash2
namespace Go.Proofs.YtpmefpdafkbphaaDoor.PureClash
open Go.RowKit PL PureS Evl
theorem knows08E : Evl (fun k => (rubricklaw08_knows.f k).bind fun t => some t) true :=
  Evl.bind (f := fun k => rubricklaw08_knows.f k) ⟨_, up rubricklaw08_knows.mono rubricklaw08_knows.sure⟩ (Evl.ret _)
end Go.Proofs.YtpmefpdafkbphaaDoor.PureClash
namespace Go.Proofs.YtpmefpdafkbphaaDoor.Pure
open Go.RowKit HSha PS PT PB PC PQ PL PClashTwo PureS PureO PureSealU PureTree PureClash Thy Evl Go.Proofs.YtpmefpdafkbphaaDoorW.PrintWords Go.Proofs.YtpmefpdafkbphaaDoorW.PrintLast Go.Proofs.YtpmefpdafkbphaaDoorW.PrintMore
set_option linter.unusedVariables false
theorem postsE8 (x y : Bs) (hx : ∀ z ∈ x, 0 ≤ z ∧ z < 256) (hy : ∀ z ∈ y, 0 ≤ z ∧ z < 256) (h1 : x.length ≤ 1000) (h2 : y.length ≤ 1000) : Evl (fun k => clash_Posts.f k x y) (btw (2 :: x) (2 :: y)) := by
  unfold clash_Posts.f; (exact Evl.bind (ev2 fun k => by rw [postsBytesF k x (by omega), bytesOf_str hx]) (Evl.bind (ev2 fun k => by rw [postsBytesF k y (by omega), bytesOf_str hy]) (Evl.bind (firstE1 _ _ (by simp only [List.length_cons]; omega) (by simp only [List.length_cons]; omega)) (Evl.ret' trf))))
theorem headE8 (x y : Bs) (hx : ∀ z ∈ x, 0 ≤ z ∧ z < 256) (hy : ∀ z ∈ y, 0 ≤ z ∧ z < 256) (h1 : x.length ≤ 1000) (h2 : y.length ≤ 1000) : Evl (fun k => clash_Head.f k x y) (btw (3 :: x) (3 :: y)) := by
  unfold clash_Head.f; (exact Evl.bind (ev2 fun k => by rw [headBytesF k x (by omega), bytesOf_str hx]) (Evl.bind (ev2 fun k => by rw [headBytesF k y (by omega), bytesOf_str hy]) (Evl.bind (firstE1 _ _ (by simp only [List.length_cons]; omega) (by simp only [List.length_cons]; omega)) (Evl.ret' trf))))
theorem ClashTwo (a b : List (List Int)) (x y : List Int) (hla : a.length ≤ 9223372036854775807 ∧ ∀ x ∈ a, x.length ≤ 9223372036854775807 ∧ ∀ y ∈ x, (Lit.int .u8 y).wf = true) (hlb : b.length ≤ 9223372036854775807 ∧ ∀ x ∈ b, x.length ≤ 9223372036854775807 ∧ ∀ y ∈ x, (Lit.int .u8 y).wf = true) (hx : x.length ≤ 9223372036854775807 ∧ ∀ y ∈ x, (Lit.int .u8 y).wf = true) (hy : y.length ≤ 9223372036854775807 ∧ ∀ z ∈ y, (Lit.int .u8 z).wf = true) : ∃ k, rubricklaw08_ClashTwo.f k a b x y = some true := by
  (refine Evl.ex (f := fun k => rubricklaw08_ClashTwo.f k a b x y) ?_); have rx := bytes_wf hx.2; have ry := bytes_wf hy.2; (have out : Evl (fun k => rubricklaw08_ClashTwo.j0 k a b x y true) true := Evl.step (fun _ => rubricklaw08_ClashTwo.j0.eq_2 ..) (Evl.pos rfl knows08E)); unfold rubricklaw08_ClashTwo.f; refine Evl.bind (great8E a hla.1) ?_; cases hg : great8 a; rotate_left
  · exact Evl.pos rfl out
  (refine Evl.neg (by decide) (Evl.bind (great8E b hlb.1) ?_)); cases hg2 : great8 b; rotate_left
  · exact Evl.pos rfl out
  (refine Evl.neg (by decide) ?_); have oka := great8_lok hg hla.2; have okb := great8_lok hg2 hlb.2; have na := great8_len hg; have nb := great8_len hg2
  by_cases h1 : (x.length : Int) > 1000
  · exact Evl.pos h1 out
  refine Evl.neg h1 ?_
  by_cases h2 : (y.length : Int) > 1000
  · rw [decide_eq_true h2]; exact out
  rw [decide_eq_false h2]
  have same : ∀ c : Int, (2 ≤ c ∧ c ≤ 3) → Evl (fun _ => rubricklaw08_same.f (btw (c :: x) (c :: y)).1 (btw (c :: x) (c :: y)).2.1 (btw (c :: x) (c :: y)).2.2 (btw (c :: x) (c :: y)).1 (btw (c :: x) (c :: y)).2.1 (btw (c :: x) (c :: y)).2.2) true := fun c _ => by
    (have := btw_len (a := c :: x) (b := c :: y) (n := 1001) (by simp only [List.length_cons]; omega) (by simp only [List.length_cons]; omega)); (exact sameE8 _ btw_is (by omega) (by omega))
  (have bet : ∀ c : Int, 0 ≤ c ∧ c < 256 → Evl (fun k => rubrickref08_Between.f k (c :: x) (c :: y)) (btw (c :: x) (c :: y)) := fun c hc => rbetweenE _ _ (cons_range hc rx) (cons_range hc ry) (by simp only [List.length_cons]; omega) (by simp only [List.length_cons]; omega)); (refine Evl.step (fun _ => rubricklaw08_ClashTwo.j0.eq_2 ..) (Evl.neg (by decide) (Evl.bind (postsE8 x y rx ry (by omega) (by omega)) (Evl.bind (bytesE 2 (by omega) x (by omega)) (Evl.bind (bytesE 2 (by omega) y (by omega)) (Evl.bind (bet 2 (by omega)) (Evl.bind (headE8 x y rx ry (by omega) (by omega)) (Evl.bind (bytesE 3 (by omega) x (by omega)) (Evl.bind (bytesE 3 (by omega) y (by omega)) (Evl.bind (bet 3 (by omega)) (Evl.bind (same 2 (by omega)) (Evl.pos rfl (Evl.bind (same 3 (by omega)) ?_))))))))))))); (refine Evl.step (fun _ => rubricklaw08_ClashTwo.j1.eq_2 ..) (Evl.neg (by decide) ?_))
  by_cases e : a.length = b.length ∧ 1 ≤ a.length
  · have t := twoD_len _ a b rfl oka okb
    (refine Evl.bind (twoE _ a b rfl e.1.symm e.2 (by omega) oka okb) (Evl.pos (by omega) ?_)); (rw [show ((a.length : Int) == 0) = false by rw [beq_eq_false_iff_ne]; omega]); (exact Evl.step (fun _ => rubricklaw08_ClashTwo.j2.eq_2 ..) (Evl.neg (by decide) (Evl.bind (rtwoE _ a b rfl e.1.symm e.2 (by omega) oka okb) (Evl.bind (sameE8 _ (twoD_is _ a b rfl) (by omega) (by omega)) (Evl.pos rfl knows08E)))))
  · have end_ : Evl (fun k => rubricklaw08_ClashTwo.j2 k a b false true [] []) true := Evl.step (fun _ => rubricklaw08_ClashTwo.j2.eq_2 ..) (Evl.pos rfl (Evl.neg (by decide) (Evl.pos rfl knows08E)))
    refine Evl.bind (twoE_no a b e) ?_
    by_cases e2 : (a.length : Int) = (b.length : Int)
    · refine Evl.pos e2 ?_
      (rw [show ((a.length : Int) == 0) = true by rw [beq_iff_eq]; omega]); exact end_
    · exact Evl.neg e2 end_
end Go.Proofs.YtpmefpdafkbphaaDoor.Pure

import Derived.Test.YtpmefpdafkbphaaDoorZtPureClash
namespace Go.Proofs.YtpmefpdafkbphaaDoor.PureClash
open Go.RowKit HSha PS PR PT PB PC PQ HNode HBytes8 PureS PureO PureSealU PureTree Thy Evl Go.Proofs.YtpmefpdafkbphaaDoorW.PrintWords Go.Proofs.YtpmefpdafkbphaaDoorW.PrintLast Go.Proofs.YtpmefpdafkbphaaDoorW.PrintMore
set_option linter.unusedVariables false
def orD (a b : C3) : C3 := if a.2.2 = true then a else b
theorem orD_is {a b : C3} (ha : a.2.2 = true → isB a.1 a.2.1 = true) (hb : b.2.2 = true → isB b.1 b.2.1 = true) : (orD a b).2.2 = true → isB (orD a b).1 (orD a b).2.1 = true := by
  unfold orD
  by_cases h : a.2.2 = true
  · rw [if_pos h]; exact ha
  · rw [if_neg h]; exact hb
theorem orD_len {a b : C3} {n : Nat} (ha : a.1.length ≤ n ∧ a.2.1.length ≤ n) (hb : b.1.length ≤ n ∧ b.2.1.length ≤ n) : (orD a b).1.length ≤ n ∧ (orD a b).2.1.length ≤ n := by
  unfold orD
  by_cases h : a.2.2 = true
  · rw [if_pos h]; exact ha
  · rw [if_neg h]; exact hb
def twoD (a b : List Bs) : C3 :=
  if h : a.length < 2 then btw (0 :: a.headD []) (0 :: b.headD [])
  else orD (btw (topD (dg a)) (topD (dg b))) (orD (twoD (a.take (sp a.length)) (b.take (sp a.length))) (twoD (a.drop (sp a.length)) (b.drop (sp a.length))))
  termination_by a.length
  decreasing_by
    · have := sp_lt (n := a.length) (by omega); simp; omega
    · have := sp_pos a.length; simp; omega
theorem twoD_one {a b : List Bs} (h : a.length < 2) : twoD a b = btw (0 :: a.headD []) (0 :: b.headD []) := by rw [twoD, dif_pos h]
theorem twoD_two {a b : List Bs} (h : 2 ≤ a.length) : twoD a b = orD (btw (topD (dg a)) (topD (dg b))) (orD (twoD (a.take (sp a.length)) (b.take (sp a.length))) (twoD (a.drop (sp a.length)) (b.drop (sp a.length)))) := by rw [twoD, dif_neg (by omega)]
theorem head_len {a : List Bs} (h : lok a) : (0 :: a.headD [] : Bs).length ≤ 301 := by
  match a with
  | [] => simp
  | x :: _ => have := (h x (by simp)).1; simp only [List.headD_cons, List.length_cons]; omega
theorem twoD_is : ∀ (n : Nat) (a b : List Bs), a.length = n → (twoD a b).2.2 = true → isB (twoD a b).1 (twoD a b).2.1 = true := by
  intro n
  induction n using Nat.strongRecOn with
  | _ n ih =>
    intro a b hl
    by_cases h : a.length < 2
    · rw [twoD_one h]; exact btw_is
    · have k1 := sp_lt (n := a.length) (by omega)
      have k2 := sp_pos a.length; (rw [twoD_two (by omega)]); (exact orD_is btw_is (orD_is (ih (sp a.length) (by omega) _ _ (by rw [List.length_take]; omega)) (ih (a.length - sp a.length) (by omega) _ _ (by rw [List.length_drop]))))
theorem twoD_len : ∀ (n : Nat) (a b : List Bs), a.length = n → lok a → lok b → (twoD a b).1.length ≤ 301 ∧ (twoD a b).2.1.length ≤ 301 := by
  intro n
  induction n using Nat.strongRecOn with
  | _ n ih =>
    intro a b hl ha hb
    by_cases h : a.length < 2
    · rw [twoD_one h]; exact btw_len (head_len ha) (head_len hb)
    · have k1 := sp_lt (n := a.length) (by omega)
      have k2 := sp_pos a.length; have t1 := topD_len (dg_ok a); have t2 := topD_len (dg_ok b); (rw [twoD_two (by omega)]); (exact orD_len (btw_len (by omega) (by omega)) (orD_len (ih (sp a.length) (by omega) _ _ (by rw [List.length_take]; omega) (lok_take ha _) (lok_take hb _)) (ih (a.length - sp a.length) (by omega) _ _ (by rw [List.length_drop]) (lok_drop ha _) (lok_drop hb _))))
theorem topD_range (l : List ByteArray) : ∀ x ∈ topD l, 0 ≤ x ∧ x < 256 := nb_range _ _
theorem twoE : ∀ (n : Nat) (a b : List Bs), a.length = n → b.length = n → 1 ≤ n → n ≤ 1000000 → lok a → lok b → Evl (fun k => clash_Two.f k a b) (twoD a b) := by
  intro n
  induction n using Nat.strongRecOn with
  | _ n ih =>
    intro a b hl hl2 h1 hn ha hb; (refine Evl.step (fun _ => clash_Two.f.eq_2 ..) (Evl.pos (by omega) ?_)); (rw [show ((a.length : Int) == 0) = false by rw [beq_eq_false_iff_ne]; omega]); (refine Evl.step (fun _ => clash_Two.j0.eq_2 ..) (Evl.neg (by decide) ?_))
    by_cases h : a.length < 2
    · rw [twoD_one h]
      (have xa := ha a[0] (List.getElem_mem (by omega))); (have xb := hb b[0] (List.getElem_mem (by omega))); (have ea : a.headD [] = a[0] := by cases a with | nil => simp at hl; omega | cons => rfl); (have eb : b.headD [] = b[0] := by cases b with | nil => simp at hl2; omega | cons => rfl); (refine Evl.pos (by omega) (Evl.pos (by omega) ?_)); (have r0 := rd_at2 a 0 (by omega)); (have r1 := rd_at2 b 0 (by omega)); rw [Int.natCast_zero] at r0 r1; rw [r0, r1, ea, eb]; (exact Evl.bind (lbE _ xa.2 (by omega)) (Evl.pos (by omega) (Evl.bind (lbE _ xb.2 (by omega)) (Evl.bind (firstE1 _ _ (by simp only [List.length_cons]; omega) (by simp only [List.length_cons]; omega)) (Evl.ret' trf)))))
    · have k1 := sp_lt (n := a.length) (by omega)
      have k2 := sp_pos a.length; have t1 := topD_len (dg_ok a); have t2 := topD_len (dg_ok b); (rw [twoD_two (by omega)]); (refine Evl.neg (by omega) (Evl.bind (leavesE a (by omega) ha) (Evl.bind (halvesE (dg a) (by rw [dg_len]; omega) (by rw [dg_len]; omega) (dg_ok a)) (Evl.bind (leavesE b (by omega) hb) (Evl.bind (halvesE (dg b) (by rw [dg_len]; omega) (by rw [dg_len]; omega) (dg_ok b)) (Evl.bind (firstE1 _ _ (by omega) (by omega)) ?_)))))); unfold orD
      by_cases c1 : (btw (topD (dg a)) (topD (dg b))).2.2 = true
      · rw [if_pos c1]; exact Evl.pos c1 (Evl.ret' (tri c1))
      rw [if_neg c1]; (refine Evl.neg c1 (Evl.bind ((splitE _).cast (splitN_nat (by omega) (by omega))) (Evl.pos (by omega) (Evl.pos (by omega) (Evl.pos (by omega) ?_))))); rw [Int.toNat_natCast]; (refine Evl.bind (ih (sp a.length) (by omega) _ _ (by rw [List.length_take]; omega) (by rw [List.length_take]; omega) k2 (by omega) (lok_take ha _) (lok_take hb _)) ?_)
      by_cases c2 : (twoD (a.take (sp a.length)) (b.take (sp a.length))).2.2 = true
      · rw [if_pos c2]; exact Evl.pos c2 (Evl.ret' (tri c2))
      rw [if_neg c2]; (exact Evl.neg c2 (Evl.bind (ih (a.length - sp a.length) (by omega) _ _ (by rw [List.length_drop]) (by rw [List.length_drop]; omega) (by omega) (by omega) (lok_drop ha _) (lok_drop hb _)) (Evl.ret' trf)))
theorem twoE_no (a b : List Bs) (h : ¬ (a.length = b.length ∧ 1 ≤ a.length)) : Evl (fun k => clash_Two.f k a b) (([] : Bs), ([] : Bs), false) := by
  (have out : Evl (fun k => clash_Two.j0 k a b true) (([] : Bs), ([] : Bs), false) := Evl.step (fun _ => clash_Two.j0.eq_2 ..) (Evl.pos rfl (Evl.ret _))); (refine Evl.step (fun _ => clash_Two.f.eq_2 ..) ?_)
  by_cases e : (a.length : Int) = (b.length : Int)
  · refine Evl.pos e ?_
    (rw [show ((a.length : Int) == 0) = true by rw [beq_iff_eq]; omega]); exact out
  · exact Evl.neg e out
theorem rtwoE : ∀ (n : Nat) (a b : List Bs), a.length = n → b.length = n → 1 ≤ n → n ≤ 1000000 → lok a → lok b → Evl (fun k => rubrickref08_Two.f k a b) (twoD a b) := by
  intro n
  induction n using Nat.strongRecOn with
  | _ n ih =>
    intro a b hl hl2 h1 hn ha hb; (refine Evl.step (fun _ => rubrickref08_Two.f.eq_2 ..) ?_)
    by_cases h : a.length < 2
    · rw [twoD_one h]
      (have xa := ha a[0] (List.getElem_mem (by omega))); (have xb := hb b[0] (List.getElem_mem (by omega))); (have ea : a.headD [] = a[0] := by cases a with | nil => simp at hl; omega | cons => rfl); (have eb : b.headD [] = b[0] := by cases b with | nil => simp at hl2; omega | cons => rfl); (refine Evl.pos (by omega) (Evl.pos (by omega) ?_)); (have r0 := rd_at2 a 0 (by omega)); (have r1 := rd_at2 b 0 (by omega)); rw [Int.natCast_zero] at r0 r1; rw [r0, r1, ea, eb]; (exact Evl.bind (bytesE 0 (by omega) _ (by omega)) (Evl.pos (by omega) (Evl.bind (bytesE 0 (by omega) _ (by omega)) (Evl.bind (rbetweenE _ _ (cons_range (by omega) xa.2) (cons_range (by omega) xb.2) (by simp only [List.length_cons]; omega) (by simp only [List.length_cons]; omega)) (Evl.ret' trf)))))
    · have k1 := sp_lt (n := a.length) (by omega)
      have k2 := sp_pos a.length; have t1 := topD_len (dg_ok a); have t2 := topD_len (dg_ok b); (rw [twoD_two (by omega)]); (refine Evl.neg (by omega) (Evl.bind (rleavesE a (by omega) ha) (Evl.bind (topE (dg a) (by rw [dg_len]; omega) (by rw [dg_len]; omega) (dg_ok a)) (Evl.bind (rleavesE b (by omega) hb) (Evl.bind (topE (dg b) (by rw [dg_len]; omega) (by rw [dg_len]; omega) (dg_ok b)) (Evl.bind (rbetweenE _ _ (topD_range _) (topD_range _) (by omega) (by omega)) ?_)))))); unfold orD
      by_cases c1 : (btw (topD (dg a)) (topD (dg b))).2.2 = true
      · rw [if_pos c1]; exact Evl.pos c1 (Evl.ret' (tri c1))
      rw [if_neg c1]; (refine Evl.neg c1 (Evl.bind ((rsplitE _).cast (splitN_nat (by omega) (by omega))) (Evl.pos (by omega) (Evl.pos (by omega) (Evl.pos (by omega) ?_))))); rw [Int.toNat_natCast]; (refine Evl.bind (ih (sp a.length) (by omega) _ _ (by rw [List.length_take]; omega) (by rw [List.length_take]; omega) k2 (by omega) (lok_take ha _) (lok_take hb _)) ?_)
      by_cases c2 : (twoD (a.take (sp a.length)) (b.take (sp a.length))).2.2 = true
      · rw [if_pos c2]; exact Evl.pos c2 (Evl.ret' (tri c2))
      rw [if_neg c2]; (exact Evl.neg c2 (Evl.bind (ih (a.length - sp a.length) (by omega) _ _ (by rw [List.length_drop]) (by rw [List.length_drop]; omega) (by omega) (by omega) (lok_drop ha _) (lok_drop hb _)) (Evl.ret' trf)))
end Go.Proofs.YtpmefpdafkbphaaDoor.PureClash

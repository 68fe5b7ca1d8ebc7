import Derived.Test.YtpmefpdafkbphaaDoorZrPureClash
namespace Go.Proofs.YtpmefpdafkbphaaDoor.PureClash
open Go.RowKit Go.Proofs.YtpmefpdafkbphaaDoor.HSha Go.Proofs.YtpmefpdafkbphaaDoor.PS Go.Proofs.YtpmefpdafkbphaaDoor.PR Go.Proofs.YtpmefpdafkbphaaDoor.PT Go.Proofs.YtpmefpdafkbphaaDoor.PB Go.Proofs.YtpmefpdafkbphaaDoor.PC Go.Proofs.YtpmefpdafkbphaaDoor.PQ Go.Proofs.YtpmefpdafkbphaaDoor.HNode Go.Proofs.YtpmefpdafkbphaaDoor.HBytes8 Go.Proofs.YtpmefpdafkbphaaDoor.PureS Go.Proofs.YtpmefpdafkbphaaDoor.PureO Go.Proofs.YtpmefpdafkbphaaDoor.PureSealU Go.Proofs.YtpmefpdafkbphaaDoor.PureTree Go.Proofs.YtpmefpdafkbphaaDoor.Thy Go.Proofs.YtpmefpdafkbphaaDoor.Evl Go.Proofs.YtpmefpdafkbphaaDoorW.PrintWords Go.Proofs.YtpmefpdafkbphaaDoorW.PrintLast Go.Proofs.YtpmefpdafkbphaaDoorW.PrintMore
set_option linter.unusedVariables false
/-- One answer, or else another one. -/
def orD (a b : C3) : C3 := if a.2.2 = true then a else b
theorem orD_is {a b : C3} (ha : a.2.2 = true → isB a.1 a.2.1 = true) (hb : b.2.2 = true → isB b.1 b.2.1 = true) : (orD a b).2.2 = true → isB (orD a b).1 (orD a b).2.1 = true := by
  unfold orD
  by_cases h : a.2.2 = true
  · rw [if_pos h]; exact ha
  · rw [if_neg h]; exact hb
theorem orD_len {a b : C3} {n : Nat} (ha : a.1.length ≤ n ∧ a.2.1.length ≤ n) (hb : b.1.length ≤ n ∧ b.2.1.length ≤ n) : (orD a b).1.length ≤ n ∧ (orD a b).2.1.length ≤ n := by
  unfold orD
  by_cases h : a.2.2 = true
  · rw [if_pos h]; exact ha
  · rw [if_neg h]; exact hb
theorem orD_no {a b : C3} : (orD a b).2.2 = false ↔ a.2.2 = false ∧ b.2.2 = false := by
  unfold orD
  cases h : a.2.2
  · rw [if_neg (by decide)]; simp
  · rw [if_pos rfl]; simp [h]
/-- The clash of two lists, by their division. -/
def twoD (a b : List Bs) : C3 :=
  if h : a.length < 2 then btw (0 :: a.headD []) (0 :: b.headD [])
  else orD (btw (topD (dg a)) (topD (dg b))) (orD (twoD (a.take (sp a.length)) (b.take (sp a.length))) (twoD (a.drop (sp a.length)) (b.drop (sp a.length))))
  termination_by a.length
  decreasing_by
    · have := sp_lt (n := a.length) (by omega); simp; omega
    · have := sp_pos a.length; simp; omega
theorem twoD_one {a b : List Bs} (h : a.length < 2) : twoD a b = btw (0 :: a.headD []) (0 :: b.headD []) := by rw [twoD, dif_pos h]
theorem twoD_two {a b : List Bs} (h : 2 ≤ a.length) : twoD a b = orD (btw (topD (dg a)) (topD (dg b))) (orD (twoD (a.take (sp a.length)) (b.take (sp a.length))) (twoD (a.drop (sp a.length)) (b.drop (sp a.length)))) := by rw [twoD, dif_neg (by omega)]
theorem head_len {a : List Bs} (h : lok a) : (0 :: a.headD [] : Bs).length ≤ 301 := by
  match a with
  | [] => simp
  | x :: _ => have := (h x (by simp)).1; simp only [List.headD_cons, List.length_cons]; omega
theorem twoD_is : ∀ (n : Nat) (a b : List Bs), a.length = n → (twoD a b).2.2 = true → isB (twoD a b).1 (twoD a b).2.1 = true := by
  intro n
  induction n using Nat.strongRecOn with
  | _ n ih =>
    intro a b hl
    by_cases h : a.length < 2
    · rw [twoD_one h]; exact btw_is
    · have k1 := sp_lt (n := a.length) (by omega)
      have k2 := sp_pos a.length
      rw [twoD_two (by omega)]
      exact orD_is btw_is (orD_is (ih (sp a.length) (by omega) _ _ (by rw [List.length_take]; omega)) (ih (a.length - sp a.length) (by omega) _ _ (by rw [List.length_drop])))
theorem twoD_len : ∀ (n : Nat) (a b : List Bs), a.length = n → lok a → lok b → (twoD a b).1.length ≤ 301 ∧ (twoD a b).2.1.length ≤ 301 := by
  intro n
  induction n using Nat.strongRecOn with
  | _ n ih =>
    intro a b hl ha hb
    by_cases h : a.length < 2
    · rw [twoD_one h]; exact btw_len (head_len ha) (head_len hb)
    · have k1 := sp_lt (n := a.length) (by omega)
      have k2 := sp_pos a.length
      have t1 := topD_len (dg_ok a)
      have t2 := topD_len (dg_ok b)
      rw [twoD_two (by omega)]
      exact orD_len (btw_len (by omega) (by omega)) (orD_len (ih (sp a.length) (by omega) _ _ (by rw [List.length_take]; omega) (lok_take ha _) (lok_take hb _)) (ih (a.length - sp a.length) (by omega) _ _ (by rw [List.length_drop]) (lok_drop ha _) (lok_drop hb _)))
theorem twoD_self : ∀ (n : Nat) (a : List Bs), a.length = n → (twoD a a).2.2 = false := by
  intro n
  induction n using Nat.strongRecOn with
  | _ n ih =>
    intro a hl
    have no : ∀ x : Bs, (btw x x).2.2 = false := fun x => by unfold btw; rw [isB_self, if_neg (by decide)]
    by_cases h : a.length < 2
    · rw [twoD_one h]; exact no _
    · have k1 := sp_lt (n := a.length) (by omega)
      have k2 := sp_pos a.length
      rw [twoD_two (by omega)]
      exact orD_no.2 ⟨no _, orD_no.2 ⟨ih (sp a.length) (by omega) _ (by rw [List.length_take]; omega), ih (a.length - sp a.length) (by omega) _ (by rw [List.length_drop])⟩⟩
/-- No clash, and one sum: alike. -/
theorem btw_no {a b : Bs} (ra : ∀ x ∈ a, 0 ≤ x ∧ x < 256) (rb : ∀ x ∈ b, 0 ≤ x ∧ x < 256) (h : (btw a b).2.2 = false) (hs : shaSum a = shaSum b) : a = b := by
  by_cases e : a = b
  · exact e
  · have := isB_ne ra rb e
    rw [hs, beq_self_eq_true] at this
    unfold btw at h
    rw [if_pos this] at h
    cases h
theorem topD_range (l : List ByteArray) : ∀ x ∈ topD l, 0 ≤ x ∧ x < 256 := nb_range _ _
theorem two_finds : ∀ (n : Nat) (a b : List Bs), a.length = n → b.length = n → 1 ≤ n → lok a → lok b → (twoD a b).2.2 = false → rootD (dg a) = rootD (dg b) → a = b := by
  intro n
  induction n using Nat.strongRecOn with
  | _ n ih =>
    intro a b hl hl2 h1 ha hb hn hr
    by_cases h : a.length < 2
    · match a, b, hl, hl2 with
      | [], _, hl, _ => simp at hl; omega
      | _ :: _ :: _, _, _, _ => simp at h; omega
      | [_], [], hl, hl2 => simp at hl hl2; omega
      | [_], _ :: _ :: _, hl, hl2 => simp at hl hl2; omega
      | [x], [y], _, _ =>
        rw [twoD_one h] at hn
        have e : leafD x = leafD y := by
          have q : ∀ z : Bs, rootD (dg [z]) = leafD z := fun z => by unfold rootD dg; rw [List.map_singleton, root_one]
          rw [q, q] at hr; exact hr
        have := btw_no (cons_range (by omega) (ha x (by simp)).2) (cons_range (by omega) (hb y (by simp)).2) hn e
        rw [(List.cons.inj this).2]
    · have k1 := sp_lt (n := a.length) (by omega)
      have k2 := sp_pos a.length
      rw [twoD_two (by omega)] at hn
      obtain ⟨n1, n2⟩ := orD_no.1 hn
      obtain ⟨n2, n3⟩ := orD_no.1 n2
      rw [root_top (by rw [dg_len]; omega), root_top (l := dg b) (by rw [dg_len]; omega)] at hr
      have e := btw_no (topD_range _) (topD_range _) n1 hr
      unfold topD at e
      rw [dg_len, dg_len, hl2, ← hl, ← dg_take, ← dg_take, ← dg_drop, ← dg_drop] at e
      obtain ⟨e1, e2⟩ := nb_inj (rootD_ok (dg_ok _)) (rootD_ok (dg_ok _)) e
      have f1 := ih (sp a.length) (by omega) _ _ (by rw [List.length_take]; omega) (by rw [List.length_take]; omega) k2 (lok_take ha _) (lok_take hb _) n2 e1
      have f2 := ih (a.length - sp a.length) (by omega) _ _ (by rw [List.length_drop]) (by rw [List.length_drop]; omega) (by omega) (lok_drop ha _) (lok_drop hb _) n3 e2
      rw [← List.take_append_drop (sp a.length) a, ← List.take_append_drop (sp a.length) b, f1, f2]
theorem twoE : ∀ (n : Nat) (a b : List Bs), a.length = n → b.length = n → 1 ≤ n → n ≤ 1000000 → lok a → lok b → Evl (fun k => clash_Two.f k a b) (twoD a b) := by
  intro n
  induction n using Nat.strongRecOn with
  | _ n ih =>
    intro a b hl hl2 h1 hn ha hb
    refine Evl.step (fun _ => clash_Two.f.eq_2 ..) (Evl.pos (by omega) ?_)
    rw [show ((a.length : Int) == 0) = false by rw [beq_eq_false_iff_ne]; omega]
    refine Evl.step (fun _ => clash_Two.j0.eq_2 ..) (Evl.neg (by decide) ?_)
    by_cases h : a.length < 2
    · rw [twoD_one h]
      have xa := ha a[0] (List.getElem_mem (by omega))
      have xb := hb b[0] (List.getElem_mem (by omega))
      have ea : a.headD [] = a[0] := by cases a with | nil => simp at hl; omega | cons => rfl
      have eb : b.headD [] = b[0] := by cases b with | nil => simp at hl2; omega | cons => rfl
      refine Evl.pos (by omega) (Evl.pos (by omega) ?_)
      have r0 := rd_at2 a 0 (by omega)
      have r1 := rd_at2 b 0 (by omega)
      rw [Int.natCast_zero] at r0 r1
      rw [r0, r1, ea, eb]
      exact Evl.bind (lbE _ xa.2 (by omega)) (Evl.pos (by omega) (Evl.bind (lbE _ xb.2 (by omega)) (Evl.bind (firstE1 _ _ (by simp only [List.length_cons]; omega) (by simp only [List.length_cons]; omega)) (Evl.ret' trf))))
    · have k1 := sp_lt (n := a.length) (by omega)
      have k2 := sp_pos a.length
      have t1 := topD_len (dg_ok a)
      have t2 := topD_len (dg_ok b)
      rw [twoD_two (by omega)]
      refine Evl.neg (by omega) (Evl.bind (leavesE a (by omega) ha) (Evl.bind (halvesE (dg a) (by rw [dg_len]; omega) (by rw [dg_len]; omega) (dg_ok a)) (Evl.bind (leavesE b (by omega) hb) (Evl.bind (halvesE (dg b) (by rw [dg_len]; omega) (by rw [dg_len]; omega) (dg_ok b)) (Evl.bind (firstE1 _ _ (by omega) (by omega)) ?_)))))
      unfold orD
      by_cases c1 : (btw (topD (dg a)) (topD (dg b))).2.2 = true
      · rw [if_pos c1]; exact Evl.pos c1 (Evl.ret' (tri c1))
      rw [if_neg c1]
      refine Evl.neg c1 (Evl.bind ((splitE _).cast (splitN_nat (by omega) (by omega))) (Evl.pos (by omega) (Evl.pos (by omega) (Evl.pos (by omega) ?_))))
      rw [Int.toNat_natCast]
      refine Evl.bind (ih (sp a.length) (by omega) _ _ (by rw [List.length_take]; omega) (by rw [List.length_take]; omega) k2 (by omega) (lok_take ha _) (lok_take hb _)) ?_
      by_cases c2 : (twoD (a.take (sp a.length)) (b.take (sp a.length))).2.2 = true
      · rw [if_pos c2]; exact Evl.pos c2 (Evl.ret' (tri c2))
      rw [if_neg c2]
      exact Evl.neg c2 (Evl.bind (ih (a.length - sp a.length) (by omega) _ _ (by rw [List.length_drop]) (by rw [List.length_drop]; omega) (by omega) (by omega) (lok_drop ha _) (lok_drop hb _)) (Evl.ret' trf))
theorem twoE_no (a b : List Bs) (h : ¬ (a.length = b.length ∧ 1 ≤ a.length)) : Evl (fun k => clash_Two.f k a b) (([] : Bs), ([] : Bs), false) := by
  have out : Evl (fun k => clash_Two.j0 k a b true) (([] : Bs), ([] : Bs), false) := Evl.step (fun _ => clash_Two.j0.eq_2 ..) (Evl.pos rfl (Evl.ret _))
  refine Evl.step (fun _ => clash_Two.f.eq_2 ..) ?_
  by_cases e : (a.length : Int) = (b.length : Int)
  · refine Evl.pos e ?_
    rw [show ((a.length : Int) == 0) = true by rw [beq_iff_eq]; omega]
    exact out
  · exact Evl.neg e out
theorem like_loop (a b : List Bs) (hl : a.length ≤ 1000000) (e : a.length = b.length) (ha : lok a) (hb : lok b) : ∀ d i : Nat, i + d = a.length → Evl (fun k => rubricklaw08_like.l0 k a b (i : Int)) (decide (a.drop i = b.drop i))
  | 0, i, h => by
    refine Evl.step (fun _ => rubricklaw08_like.l0.eq_2 ..) (Evl.neg (by omega) (Evl.ret' ?_))
    rw [List.drop_eq_nil_of_le (by omega), List.drop_eq_nil_of_le (by omega)]; rfl
  | d + 1, i, h => by
    have hi : i < a.length := by omega
    have hj : i < b.length := by omega
    refine Evl.step (fun _ => rubricklaw08_like.l0.eq_2 ..) (Evl.pos (by omega) (Evl.pos (by omega) (Evl.pos (by omega) ?_)))
    rw [rd_at2 a i hi, rd_at2 b i hj, w1 i (by omega)]
    by_cases hs : (strOfNums a[i]).toList = (strOfNums b[i]).toList
    · have es := str_inj (ha _ (List.getElem_mem hi)).2 (hb _ (List.getElem_mem hj)).2 hs
      refine Evl.pos hs ((like_loop a b hl e ha hb d (i + 1) (by omega)).cast ?_)
      rw [decide_eq_decide, List.drop_eq_getElem_cons hi, List.drop_eq_getElem_cons hj, es]
      exact ⟨fun h => by rw [h], fun h => (List.cons.inj h).2⟩
    · refine Evl.neg hs (Evl.ret' (decide_eq_false ?_).symm)
      rw [List.drop_eq_getElem_cons hi, List.drop_eq_getElem_cons hj]
      exact fun h => hs (by rw [(List.cons.inj h).1])
theorem likeE (a b : List Bs) (hl : a.length ≤ 1000000) (ha : lok a) (hb : lok b) : Evl (fun k => rubricklaw08_like.f k a b) (decide (a = b)) := by
  unfold rubricklaw08_like.f
  by_cases e : a.length = b.length
  · have := like_loop a b hl e ha hb a.length 0 (by omega)
    rw [List.drop_zero, List.drop_zero] at this
    exact Evl.pos (by omega) this
  · exact Evl.neg (by omega) (Evl.ret' (decide_eq_false fun h => e (by rw [h])).symm)
end Go.Proofs.YtpmefpdafkbphaaDoor.PureClash

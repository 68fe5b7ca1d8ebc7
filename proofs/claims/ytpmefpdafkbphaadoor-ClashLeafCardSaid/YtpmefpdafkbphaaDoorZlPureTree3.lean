import Derived.Test.YtpmefpdafkbphaaDoorZlPureTree2
namespace Go.Proofs.YtpmefpdafkbphaaDoor.PureTree
open Go.RowKit HSha PS PB PureS PureO Thy Evl Go.Proofs.YtpmefpdafkbphaaDoorW.PrintWords Go.Proofs.YtpmefpdafkbphaaDoorW.PrintLast
set_option linter.unusedVariables false
def sidesT (i n : Nat) : List Bool :=
  if h : n < 2 then [] else if i < sp n then true :: sidesT i (sp n) else false :: sidesT (i - sp n) (n - sp n)
  termination_by n
  decreasing_by
    · exact sp_lt (by omega)
    · have := sp_pos n; omega
theorem sidesT_small {n : Nat} (h : n < 2) (i : Nat) : sidesT i n = [] := by rw [sidesT, dif_pos h]
theorem sidesT_left {i n : Nat} (h : 2 ≤ n) (hi : i < sp n) : sidesT i n = true :: sidesT i (sp n) := by rw [sidesT, dif_neg (by omega), if_pos hi]
theorem sidesT_right {i n : Nat} (h : 2 ≤ n) (hi : ¬ i < sp n) : sidesT i n = false :: sidesT (i - sp n) (n - sp n) := by rw [sidesT, dif_neg (by omega), if_neg hi]
theorem sidesT_len : ∀ (n i : Nat), (sidesT i n).length = steps i n := by
  intro n
  induction n using Nat.strongRecOn with
  | _ n ih =>
    intro i
    by_cases h : n < 2
    · rw [sidesT_small h, steps_small h]; rfl
    · have h1 := sp_lt (n := n) (by omega)
      have h2 := sp_pos n
      by_cases hk : i < sp n
      · rw [sidesT_left (by omega) hk, steps_left (by omega) hk, List.length_cons, ih _ h1]; omega
      · rw [sidesT_right (by omega) hk, steps_right (by omega) hk, List.length_cons, ih _ (by omega)]; omega
theorem steps_le : ∀ (h n i : Nat), n ≤ 2 ^ h → i < n → steps i n ≤ h := by
  intro h
  induction h with
  | zero =>
    intro n i hn hi
    rw [steps_small (by simp at hn; omega)]; omega
  | succ h ih =>
    intro n i hn hi
    by_cases h2 : n < 2
    · rw [steps_small h2]; omega
    · have k1 : 2 ^ Nat.log2 (n - 1) ≤ n - 1 := Nat.log2_self_le (by omega)
      have k4 : Nat.log2 (n - 1) ≤ h := by
        rcases Nat.lt_or_ge h (Nat.log2 (n - 1)) with l | l
        · have := Nat.pow_le_pow_right (n := 2) (by decide) l; omega
        · exact l
      (have k5 : sp n ≤ 2 ^ h := Nat.pow_le_pow_right (by decide) k4); (have k6 := sp_ge (n := n) (by omega)); have k7 := sp_pos n; (have k8 := sp_lt (n := n) (by omega))
      by_cases hk : i < sp n
      · rw [steps_left (by omega) hk]
        have := ih (sp n) i k5 hk; omega
      · rw [steps_right (by omega) hk]
        have := ih (n - sp n) (i - sp n) (by omega) (by omega); omega
def half (s : List Bool) (j : Nat) : List Bool := (List.range s.length).map fun p => if p < j ∨ s.length - j ≤ p then s.getD (s.length - 1 - p) false else s.getD p false
theorem half_len (s : List Bool) (j : Nat) : (half s j).length = s.length := by simp [half]
theorem half_get (s : List Bool) (j p : Nat) (h : p < s.length) : (half s j)[p]'(by rw [half_len]; exact h) = if p < j ∨ s.length - j ≤ p then s.getD (s.length - 1 - p) false else s.getD p false := by simp [half]
theorem half_zero (s : List Bool) : half s 0 = s := by
  apply List.ext_getElem (half_len s 0); intro p h1 h2; (rw [half_get s 0 p h2, if_neg (by omega), List.getD_eq_getElem?_getD, List.getElem?_eq_getElem h2]; rfl)
theorem half_all (s : List Bool) (j : Nat) (h : s.length ≤ 2 * j + 1) : half s j = s.reverse := by
  (apply List.ext_getElem (by rw [half_len, List.length_reverse])); intro p h1 h2; (have h3 : p < s.length := by simpa using h2); rw [half_get s j p h3, List.getElem_reverse]
  by_cases hp : p < j ∨ s.length - j ≤ p
  · rw [if_pos hp, List.getD_eq_getElem?_getD, List.getElem?_eq_getElem (by omega)]; rfl
  · rw [if_neg hp, List.getD_eq_getElem?_getD, List.getElem?_eq_getElem h3]
    (have : s.length - 1 - p = p := by omega); (simp only [this]; rfl)
theorem half_step (s : List Bool) (j : Nat) (h : 2 * j + 1 < s.length) : ((half s j).set j (s.getD (s.length - 1 - j) false)).set (s.length - 1 - j) (s.getD j false) = half s (j + 1) := by
  (apply List.ext_getElem (by simp [half_len])); intro p h1 h2; (have h3 : p < s.length := by rw [half_len] at h2; exact h2); rw [half_get s (j + 1) p h3, List.getElem_set, List.getElem_set, half_get s j p h3]
  by_cases e1 : s.length - 1 - j = p
  · rw [if_pos e1, if_pos (by omega), show s.length - 1 - p = j by omega]
  · rw [if_neg e1]
    by_cases e2 : j = p
    · rw [if_pos e2, if_pos (by omega), e2]
    · rw [if_neg e2]
      by_cases e3 : p < j ∨ s.length - j ≤ p
      · rw [if_pos e3, if_pos (by omega)]
      · rw [if_neg e3, if_neg (by omega)]
theorem half_rd (s : List Bool) (j p : Nat) (h : p < s.length) (hp : j ≤ p) (hq : p < s.length - j) : rdOf false (half s j) (p : Int) = s.getD p false := by
  rw [rd_at _ _ _ (by rw [half_len]; exact h), half_get s j p h, if_neg (by omega)]
theorem rev_loop (s : List Bool) (hs : s.length ≤ 1000000000) : ∀ d j : Nat, j + d = s.length → 2 * j ≤ s.length + 1 → Evl (fun k => tree_sides.l1 k (half s j) (j : Int) ((s.length : Int) - 1 - (j : Int))) s.reverse := by
  intro d
  induction d with
  | zero =>
    intro j h hj
    refine Evl.step (fun _ => tree_sides.l1.eq_2 ..) (Evl.neg (by omega) (Evl.ret' (half_all s j (by omega))))
  | succ d ih =>
    intro j h hj
    by_cases hlt : (j : Int) < (s.length : Int) - 1 - (j : Int)
    · have e : (s.length : Int) - 1 - (j : Int) = ((s.length - 1 - j : Nat) : Int) := by omega
      (refine Evl.step (fun _ => tree_sides.l1.eq_2 ..) (Evl.pos hlt ?_)); (rw [e, half_len, half_rd s j (s.length - 1 - j) (by omega) (by omega) (by omega), half_rd s j j (by omega) (by omega) (by omega), w1 j (by omega), Int.toNat_natCast, Int.toNat_natCast]); (refine Evl.pos (by omega) (Evl.pos (by omega) (Evl.pos (by omega) (Evl.pos (by omega) ?_)))); (rw [half_step s j (by omega), show wrap64 (((s.length - 1 - j : Nat) : Int) - 1) = (s.length : Int) - 1 - ((j + 1 : Nat) : Int) by rw [wN (by omega) (by omega)]; omega]); (exact ih (j + 1) (by omega) (by omega))
    · exact Evl.step (fun _ => tree_sides.l1.eq_2 ..) (Evl.neg hlt (Evl.ret' (half_all s j (by omega))))
theorem sides_loop : ∀ (n i : Nat) (acc : List Bool), i < n → n ≤ 1099511627776 → acc.length + steps i n ≤ 1000000 → Evl (fun k => tree_sides.l0 k (i : Int) (n : Int) acc) (acc ++ sidesT i n).reverse := by
  intro n
  induction n using Nat.strongRecOn with
  | _ n ih =>
    intro i acc hi hn ha; (refine Evl.step (fun _ => tree_sides.l0.eq_2 ..) ?_)
    by_cases h : (n : Int) > 1
    · have h1 := sp_lt (n := n) (by omega)
      have h2 := sp_pos n; (refine Evl.pos h (Evl.bind ((splitE _).cast (splitN_nat (by omega) hn)) ?_))
      by_cases hk : i < sp n
      · rw [steps_left (by omega) hk] at ha
        (refine Evl.pos (by omega) (Evl.some_bind (Evl.pos (by omega) ?_))); (rw [decide_eq_true (show (i : Int) < (sp n : Int) by omega), sidesT_left (by omega) hk]); (refine (ih (sp n) h1 i (acc ++ [true]) hk (by omega) (by simp; omega)).cast ?_); simp
      · rw [steps_right (by omega) hk] at ha
        refine Evl.pos (by omega) (Evl.some_bind (Evl.neg (by omega) ?_))
        rw [decide_eq_false (show ¬ (i : Int) < (sp n : Int) by omega), sidesT_right (by omega) hk, wN (n := (i : Int) - (sp n : Int)) (by omega) (by omega), wN (n := (n : Int) - (sp n : Int)) (by omega) (by omega),
          show (i : Int) - (sp n : Int) = ((i - sp n : Nat) : Int) by omega, show (n : Int) - (sp n : Int) = ((n - sp n : Nat) : Int) by omega]
        (refine (ih (n - sp n) (by omega) (i - sp n) (acc ++ [false]) (by omega) (by omega) (by simp; omega)).cast ?_); simp
    · refine Evl.neg h ?_
      (rw [sidesT_small (by omega), List.append_nil, wN (n := (acc.length : Int) - 1) (by omega) (by omega)]); (have := rev_loop acc (by omega) acc.length 0 (by omega) (by omega)); rw [half_zero] at this; (rw [show (acc.length : Int) - 1 = (acc.length : Int) - 1 - ((0 : Nat) : Int) by omega]); exact this
theorem sidesE (i n : Nat) (hi : i < n) (hn : n ≤ 1099511627776) : Evl (fun k => tree_sides.f k (i : Int) (n : Int)) (sidesT i n).reverse := by
  (have h40 := steps_le 40 n i (by omega) hi); (exact sides_loop n i [] hi hn (by simp; omega))
def upBy (x : ByteArray) : List Bool → List ByteArray → ByteArray
  | [], _ => x
  | _, [] => x
  | true :: s, d :: p => upBy (nodeD x d) s p
  | false :: s, d :: p => upBy (nodeD d x) s p
theorem upBy_snoc (b : Bool) (d : ByteArray) : ∀ (s : List Bool) (p : List ByteArray) (x : ByteArray), s.length = p.length → upBy x (s ++ [b]) (p ++ [d]) = if b then nodeD (upBy x s p) d else nodeD d (upBy x s p)
  | [], [], x, _ => by cases b <;> rfl
  | [], _ :: _, x, h => by simp at h
  | _ :: _, [], x, h => by simp at h
  | true :: s, e :: p, x, h => by
    rw [List.cons_append, List.cons_append, upBy, upBy]
    exact upBy_snoc b d s p _ (by simpa using h)
  | false :: s, e :: p, x, h => by
    rw [List.cons_append, List.cons_append, upBy, upBy]; (exact upBy_snoc b d s p _ (by simpa using h))
theorem upBy_climb : ∀ (n i : Nat) (x : ByteArray) (p : List ByteArray), p.length = steps i n → upBy x (sidesT i n).reverse p = climb nodeD emptyD x i n p := by
  intro n
  induction n using Nat.strongRecOn with
  | _ n ih =>
    intro i x p hp
    by_cases h : n < 2
    · rw [sidesT_small h, climb_small nodeD emptyD h]; rfl
    · have h1 := sp_lt (n := n) (by omega)
      have h2 := sp_pos n
      by_cases hk : i < sp n
      · rw [steps_left (by omega) hk] at hp
        (obtain ⟨q, d, rfl⟩ : ∃ q d, p = q ++ [d] := ⟨p.dropLast, p.getLast (by intro hh; subst hh; simp at hp; omega), (List.dropLast_concat_getLast _).symm⟩); (have hq : q.length = steps i (sp n) := by simp at hp; omega); (rw [sidesT_left (by omega) hk, List.reverse_cons, upBy_snoc _ _ _ _ _ (by rw [List.length_reverse, sidesT_len]; exact hq.symm), ih _ h1 i x q hq, climb_left nodeD emptyD (by omega) hk]); rfl
      · rw [steps_right (by omega) hk] at hp
        (obtain ⟨q, d, rfl⟩ : ∃ q d, p = q ++ [d] := ⟨p.dropLast, p.getLast (by intro hh; subst hh; simp at hp; omega), (List.dropLast_concat_getLast _).symm⟩); (have hq : q.length = steps (i - sp n) (n - sp n) := by simp at hp; omega); (rw [sidesT_right (by omega) hk, List.reverse_cons, upBy_snoc _ _ _ _ _ (by rw [List.length_reverse, sidesT_len]; exact hq.symm), ih _ (by omega) _ x q hq, climb_right nodeD emptyD (by omega) hk]); rfl
theorem up_loop (s : List Bool) (p : List ByteArray) (hp : s.length = p.length) (hl : p.length ≤ 1000000000) (ok : okD p = true) : ∀ (d j : Nat) (x : ByteArray), j + d = s.length → x.size = 32 → Evl (fun k => tree_Climb.l0 k x p s (s.length : Int) (j : Int)) (upBy x (s.drop j) (p.drop j), 0)
  | 0, j, x, h, hx => by
    (refine Evl.step (fun _ => tree_Climb.l0.eq_2 ..) (Evl.neg (by omega) (Evl.ret' ?_))); (rw [List.drop_eq_nil_of_le (by omega)])
    rfl
  | d + 1, j, x, h, hx => by
    (have hj : j < s.length := by omega); (have hj2 : j < p.length := by omega); (refine Evl.step (fun _ => tree_Climb.l0.eq_2 ..) (Evl.pos (by omega) (Evl.pos (by omega) (Evl.pos (by omega) ?_)))); have hd : p[j].size = 32 := okD_mem ok (List.getElem_mem hj2); (rw [rd_at _ s j hj, rd_at _ p j hj2, w1 j (by omega), List.drop_eq_getElem_cons hj, List.drop_eq_getElem_cons hj2]); cases hb : s[j]
    · refine Evl.neg (by simp) (Evl.pos (by omega) (Evl.bind (tnodeE _ _ hd hx) ?_))
      exact up_loop s p hp hl ok d (j + 1) _ (by omega) (nodeD_size _ _)
    · refine Evl.pos rfl (Evl.pos (by omega) (Evl.bind (tnodeE _ _ hx hd) ?_))
      exact up_loop s p hp hl ok d (j + 1) _ (by omega) (nodeD_size _ _)
def climbA (x : ByteArray) (i n : Int) (p : List ByteArray) : ByteArray × Int :=
  if x.size = 32 ∧ 1 ≤ n ∧ n ≤ 1099511627776 ∧ 0 ≤ i ∧ i < n then (if p.length = steps i.toNat n.toNat ∧ okD p = true then (climb nodeD emptyD x i.toNat n.toNat p, 0) else (⟨#[]⟩, 6)) else (⟨#[]⟩, 1)
theorem tclimbE (x : ByteArray) (i n : Int) (p : List ByteArray) (hl : p.length ≤ 1000000000) : Evl (fun k => tree_Climb.f k x i n p) (climbA x i n p) := by
  (have bad : Evl (fun k => tree_Climb.j0 k x i n p true) ((⟨#[]⟩ : ByteArray), (1 : Int)) := Evl.step (fun _ => tree_Climb.j0.eq_2 ..) (Evl.pos rfl (Evl.ret _))); unfold tree_Climb.f climbA
  by_cases h1 : (x.size : Int) = 32
  rotate_left
  · rw [if_neg (by omega)]; exact Evl.neg h1 bad
  refine Evl.pos h1 ?_
  by_cases h2 : n < 1
  · rw [if_neg (by omega)]; exact Evl.pos h2 bad
  refine Evl.neg h2 ?_
  by_cases h3 : n > 1099511627776
  · rw [if_neg (by omega)]; exact Evl.pos h3 bad
  refine Evl.neg h3 ?_
  by_cases h4 : i < 0
  · rw [if_neg (by omega)]; exact Evl.pos h4 bad
  refine Evl.neg h4 ?_
  by_cases h5 : i ≥ n
  · rw [if_neg (by omega), decide_eq_true h5]; exact bad
  (rw [if_pos ⟨by omega, by omega, by omega, by omega, by omega⟩, decide_eq_false h5]); (obtain ⟨i, rfl⟩ := Int.eq_ofNat_of_zero_le (show 0 ≤ i by omega)); (obtain ⟨n, rfl⟩ := Int.eq_ofNat_of_zero_le (show 0 ≤ n by omega)); rw [Int.toNat_natCast, Int.toNat_natCast]; (refine Evl.step (fun _ => tree_Climb.j0.eq_2 ..) (Evl.neg (by simp) (Evl.bind (sidesE i n (by omega) (by omega)) ?_))); rw [List.length_reverse, sidesT_len]; (have no : Evl (fun k => tree_Climb.j1 k x p (sidesT i n).reverse true) ((⟨#[]⟩ : ByteArray), (6 : Int)) := Evl.step (fun _ => tree_Climb.j1.eq_2 ..) (Evl.pos rfl (Evl.ret _)))
  by_cases h6 : (steps i n : Int) = (p.length : Int)
  · refine Evl.pos h6 (Evl.bind (allE p (by omega)) ?_)
    cases ok : okD p
    · rw [if_neg (by simp)]; exact no
    · rw [if_pos ⟨by omega, rfl⟩]
      (refine Evl.step (fun _ => tree_Climb.j1.eq_2 ..) (Evl.neg (by simp) ?_)); (have := up_loop (sidesT i n).reverse p (by rw [List.length_reverse, sidesT_len]; omega) hl ok (sidesT i n).reverse.length 0 x (by omega) (by omega)); (rw [List.drop_zero, List.drop_zero, upBy_climb n i x p (by omega)] at this); exact this
  · rw [if_neg (by omega)]
    exact Evl.neg h6 no
end Go.Proofs.YtpmefpdafkbphaaDoor.PureTree

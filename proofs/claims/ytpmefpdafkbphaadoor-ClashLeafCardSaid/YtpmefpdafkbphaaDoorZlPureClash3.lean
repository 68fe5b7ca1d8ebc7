import Derived.Test.YtpmefpdafkbphaaDoorZlPureClash
namespace Go.Proofs.YtpmefpdafkbphaaDoor.PureClash
open Go.RowKit HSha PS PR PT PB PC PQ HNode HBytes8 PureS PureO PureSealU PureTree Thy Evl Go.Proofs.YtpmefpdafkbphaaDoorW.PrintWords Go.Proofs.YtpmefpdafkbphaaDoorW.PrintLast Go.Proofs.YtpmefpdafkbphaaDoorW.PrintMore
set_option linter.unusedVariables false
theorem head_len {a : List Bs} (h : lok a) : (0 :: a.headD [] : Bs).length ≤ 301 := by
  match a with
  | [] => simp
  | x :: _ => have := (h x (by simp)).1; simp only [List.headD_cons, List.length_cons]; omega
theorem topD_range (l : List ByteArray) : ∀ x ∈ topD l, 0 ≤ x ∧ x < 256 := nb_range _ _
end Go.Proofs.YtpmefpdafkbphaaDoor.PureClash
namespace Go.Proofs.YtpmefpdafkbphaaDoor.PureClash
open Go.RowKit HSha PS PR PT PB PC PQ HNode HBytes8 PureS PureO PureSealU PureTree Thy Evl Go.Proofs.YtpmefpdafkbphaaDoorW.PrintWords Go.Proofs.YtpmefpdafkbphaaDoorW.PrintLast Go.Proofs.YtpmefpdafkbphaaDoorW.PrintMore
set_option linter.unusedVariables false
abbrev cl (x : ByteArray) (i n : Nat) (p : List ByteArray) : ByteArray := climb nodeD emptyD x i n p
def pairsD (l : List Bs) (i : Nat) (leaf : Bs) (p : List ByteArray) : List (S77) :=
  if h : l.length < 2 then [⟨0 :: leaf, 0 :: l.headD []⟩]
  else if i < sp l.length then ⟨nb (cl (leafD leaf) i (sp l.length) p.dropLast) (p.getLastD emptyD), topD (dg l)⟩ :: pairsD (l.take (sp l.length)) i leaf p.dropLast
  else ⟨nb (p.getLastD emptyD) (cl (leafD leaf) (i - sp l.length) (l.length - sp l.length) p.dropLast), topD (dg l)⟩ :: pairsD (l.drop (sp l.length)) (i - sp l.length) leaf p.dropLast
  termination_by l.length
  decreasing_by
    · have := sp_lt (n := l.length) (by omega); simp; omega
    · have := sp_pos l.length; simp; omega
theorem pairs_one {l : List Bs} (h : l.length < 2) (i : Nat) (leaf : Bs) (p : List ByteArray) : pairsD l i leaf p = [⟨0 :: leaf, 0 :: l.headD []⟩] := by rw [pairsD, dif_pos h]
theorem pairs_left {l : List Bs} (h : 2 ≤ l.length) {i : Nat} (hi : i < sp l.length) (leaf : Bs) (p : List ByteArray) (d : ByteArray) : pairsD l i leaf (p ++ [d]) = ⟨nb (cl (leafD leaf) i (sp l.length) p) d, topD (dg l)⟩ :: pairsD (l.take (sp l.length)) i leaf p := by
  rw [pairsD, dif_neg (by omega), if_pos hi]; simp
theorem pairs_right {l : List Bs} (h : 2 ≤ l.length) {i : Nat} (hi : ¬ i < sp l.length) (leaf : Bs) (p : List ByteArray) (d : ByteArray) : pairsD l i leaf (p ++ [d]) = ⟨nb d (cl (leafD leaf) (i - sp l.length) (l.length - sp l.length) p), topD (dg l)⟩ :: pairsD (l.drop (sp l.length)) (i - sp l.length) leaf p := by
  rw [pairsD, dif_neg (by omega), if_neg hi]; simp
theorem cl_size (leaf : Bs) (i n : Nat) (p : List ByteArray) : (cl (leafD leaf) i n p).size = 32 := climb_size n i _ p (leafD_size _)
theorem steps_some {i n : Nat} (h : 2 ≤ n) : steps i n ≠ 0 := by
  by_cases hi : i < sp n
  · rw [steps_left h hi]; omega
  · rw [steps_right h hi]; omega
theorem split_last {p : List ByteArray} {m : Nat} (h : p.length = 1 + m) : ∃ q d, p = q ++ [d] ∧ q.length = m := by
  (have hne : p ≠ [] := by intro e; subst e; simp at h; omega); refine ⟨p.dropLast, p.getLast hne, (List.dropLast_concat_getLast hne).symm, ?_⟩; (rw [List.length_dropLast]; omega)
theorem okD_app {p : List ByteArray} {d : ByteArray} (ok : okD (p ++ [d]) = true) : okD p = true ∧ d.size = 32 := by
  (unfold okD at ok ⊢); rw [List.all_append, Bool.and_eq_true] at ok; (exact ⟨ok.1, by simpa using ok.2⟩)
theorem pairs_len : ∀ (n : Nat) (l : List Bs) (i : Nat) (leaf : Bs) (p : List ByteArray), l.length = n → i < n → lok l → leaf.length ≤ 300 → p.length = steps i n → okD p = true → ∀ q ∈ pairsD l i leaf p, q.f0.length ≤ 301 ∧ q.f1.length ≤ 301 := by
  intro n
  induction n using Nat.strongRecOn with
  | _ n ih =>
    intro l i leaf p hl hi hk hf hp ok
    by_cases h : l.length < 2
    · rw [pairs_one h]
      intro q hq; rw [List.mem_singleton] at hq; subst hq; (exact ⟨by simp only [List.length_cons]; omega, head_len hk⟩)
    · have k1 := sp_lt (n := l.length) (by omega)
      have k2 := sp_pos l.length; have t1 := topD_len (dg_ok l)
      by_cases hk2 : i < sp l.length
      · rw [← hl, steps_left (by omega) hk2] at hp
        obtain ⟨q, d, rfl, hq⟩ := split_last hp; obtain ⟨okq, hd⟩ := okD_app ok; (rw [pairs_left (by omega) hk2]); intro r hr; rcases List.mem_cons.1 hr with rfl | hr
        · have := nb_len (cl_size leaf i (sp l.length) q) hd
          exact ⟨by simp only; omega, by simp only; omega⟩
        · exact ih (sp l.length) (by omega) _ i leaf q (by rw [List.length_take]; omega) hk2 (lok_take hk _) hf hq okq r hr
      · rw [← hl, steps_right (by omega) hk2] at hp
        obtain ⟨q, d, rfl, hq⟩ := split_last hp; obtain ⟨okq, hd⟩ := okD_app ok; (rw [pairs_right (by omega) hk2]); intro r hr; rcases List.mem_cons.1 hr with rfl | hr
        · have := nb_len hd (cl_size leaf (i - sp l.length) (l.length - sp l.length) q)
          exact ⟨by simp only; omega, by simp only; omega⟩
        · exact ih (l.length - sp l.length) (by omega) _ (i - sp l.length) leaf q (by rw [List.length_drop]) (by omega) (lok_drop hk _) hf hq okq r hr
theorem z77_ok : (z77).f0.length ≤ 301 ∧ (z77).f1.length ≤ 301 := ⟨by decide, by decide⟩
theorem ax1 {i lo s : Nat} (h1 : lo ≤ i) (h : i - lo < s) : i < lo + s := by omega
theorem ax2 {lo s h n : Nat} (h1 : s < h - lo) (h2 : h ≤ n) : lo + s ≤ n := by omega
theorem ax3 {i lo s : Nat} (h1 : lo ≤ i) (h : ¬ i - lo < s) : lo + s ≤ i := by omega
theorem ax4 {i lo s h : Nat} (h1 : ¬ i - lo < s) (h2 : lo ≤ i) (h3 : i < h) : i - lo - s < h - lo - s := by omega
theorem ax5 {a s : Nat} (h : ¬ a < s) (ha : a ≤ 1000000) : wrap64 ((a : Int) - (s : Int)) = ((a - s : Nat) : Int) := by rw [wN (by omega) (by omega)]; omega
theorem tclimb_ok (leaf : Bs) (i n : Nat) (p : List ByteArray) (h1 : i < n) (h2 : n ≤ 1000000) (hp : p.length = steps i n) (ok : okD p = true) (hl : p.length ≤ 1000) : Evl (fun k => tree_Climb.f k (leafD leaf) (i : Int) (n : Int) p) (cl (leafD leaf) i n p, 0) := by
  (refine (tclimbE (leafD leaf) (i : Int) (n : Int) p (by omega)).cast ?_); unfold climbA; (rw [if_pos ⟨leafD_size _, by omega, by omega, by omega, by omega⟩, Int.toNat_natCast, Int.toNat_natCast, if_pos ⟨hp, ok⟩])
theorem leaf_loop (l : List Bs) (i : Nat) (leaf : Bs) (p : List ByteArray) (hl : l.length ≤ 100000) (hi : i < l.length) (hk : lok l) (hf : leaf.length ≤ 300 ∧ ∀ x ∈ leaf, 0 ≤ x ∧ x < 256) (hp : p.length ≤ 1000) (ok : okD p = true) (last : S77) (he : last = ⟨0 :: leaf, 0 :: l[i]⟩) :
    ∀ (d j lo hi' : Nat) (done : List (S77)) (x13 : List (S77)), j + d = p.length → lo ≤ i → i < hi' → hi' ≤ l.length → d = steps (i - lo) (hi' - lo) → x13.length = p.length + 1 → x13.take j = done → x13[p.length]? = some last → (∀ q ∈ x13, q.f0.length ≤ 301 ∧ q.f1.length ≤ 301) →
    Evl (fun k => clash_Leaf.l0 k leaf p (dg l) x13 (i : Int) (lo : Int) (hi' : Int) (p.length : Int) (j : Int)) (fstD (done ++ pairsD ((l.take hi').drop lo) (i - lo) leaf (p.take d)))
  | 0, j, lo, hi', done, x13, hj, h1, h2, h3, hs, hx, hd, hlast, hq => by
    have hn : hi' - lo < 2 := by
      rcases Nat.lt_or_ge (hi' - lo) 2 with h | h
      · exact h
      · exact absurd hs.symm (steps_some h)
    (obtain rfl : lo = i := by omega); (obtain rfl : hi' = lo + 1 := by omega)
    have e : (l.take (lo + 1)).drop lo = [l[lo]] := by
      rw [List.take_succ_eq_append_getElem hi, List.drop_append_of_le_length (by rw [List.length_take]; omega), List.drop_of_length_le (by rw [List.length_take]; omega)]; rfl
    rw [e, pairs_one (by simp)]
    have e2 : done ++ [(⟨0 :: leaf, 0 :: [l[lo]].headD []⟩ : S77)] = x13 := by
      rw [← hd]; (have : j = p.length := by omega); subst this; (have hlt : p.length < x13.length := by omega); rw [List.getElem?_eq_getElem hlt, he] at hlast; have e3 : x13[p.length] = (⟨0 :: leaf, 0 :: [l[lo]].headD []⟩ : S77) := Option.some.inj hlast; (rw [← e3, ← List.take_succ_eq_append_getElem hlt, List.take_of_length_le (by omega)])
    rw [e2]
    exact Evl.step (fun _ => clash_Leaf.l0.eq_2 ..) (Evl.neg (by omega) (Evl.bind (firstE x13 (by omega) (fun q hq2 => ⟨Nat.le_trans (hq q hq2).1 (by omega), Nat.le_trans (hq q hq2).2 (by omega)⟩)) (Evl.ret' trf)))
  | d + 1, j, lo, hi', done, x13, hj, h1, h2, h3, hs, hx, hd, hlast, hq => by
    have hn : 2 ≤ hi' - lo := by
      rcases Nat.lt_or_ge (hi' - lo) 2 with h | h
      · rw [steps_small h] at hs; omega
      · exact h
    (have hlen : ((l.take hi').drop lo).length = hi' - lo := by rw [List.length_drop, List.length_take]; omega); (have hdg : ((dg l).take hi').drop lo = dg ((l.take hi').drop lo) := by rw [dg_drop, dg_take]); have k1 := sp_lt hn; have k2 := sp_pos (hi' - lo); (have hdp : d < p.length := by omega); have hpd : p.take (d + 1) = p.take d ++ [p[d]] := List.take_succ_eq_append_getElem hdp; have hsz : p[d].size = 32 := okD_mem ok (List.getElem_mem hdp); have okd : okD (p.take d) = true := okD_take ok d; (have hld : (p.take d).length = d := by rw [List.length_take]; omega); (have w_ : ∀ n : Int, -4000000000 ≤ n → n ≤ 4000000000 → wrap64 n = n := fun n a b => wN (by omega) (by omega)); (have ehl : wrap64 ((hi' : Int) - (lo : Int)) = ((hi' - lo : Nat) : Int) := by rw [w_ _ (by omega) (by omega)]; omega); (have eil : wrap64 ((i : Int) - (lo : Int)) = ((i - lo : Nat) : Int) := by rw [w_ _ (by omega) (by omega)]; omega); (have eup : wrap64 (wrap64 ((p.length : Int) - 1) - (j : Int)) = (d : Int) := by rw [w_ ((p.length : Int) - 1) (by omega) (by omega), w_ _ (by omega) (by omega)]; omega); (have etk : ((dg l).take (hi' : Int).toNat).drop (lo : Int).toNat = dg ((l.take hi').drop lo) := by rw [Int.toNat_natCast, Int.toNat_natCast]; exact hdg); (have half := halvesE (dg ((l.take hi').drop lo)) (by rw [dg_len, hlen]; exact hn) (by rw [dg_len, hlen]; omega) (dg_ok _)); have rdp : rdOf ByteArray.empty p (d : Int) = p[d] := rd_at _ p d hdp; (have ht1 : (p.take d).length ≤ 1000 := by rw [hld]; exact Nat.le_of_lt (Nat.lt_of_lt_of_le hdp hp)); (have hn1 : hi' - lo ≤ 1000000 := Nat.le_trans (Nat.sub_le _ _) (Nat.le_trans h3 (Nat.le_trans hl (by decide)))); (refine Evl.step (fun _ => clash_Leaf.l0.eq_2 ..) (Evl.pos (by omega) ?_)); rw [ehl]; (refine Evl.bind ((splitE _).cast (splitN_nat hn (by omega))) (Evl.pos (by omega) (Evl.pos (by omega) (Evl.pos (by rw [dg_len]; omega) ?_)))); rw [eil, eup, etk]; refine Evl.some_bind ?_
    have next : ∀ (q : S77) (lo2 hi2 : Nat) (tail : List (S77)), (q.f0.length ≤ 301 ∧ q.f1.length ≤ 301) → lo2 ≤ i → i < hi2 → hi2 ≤ l.length → d = steps (i - lo2) (hi2 - lo2) → pairsD ((l.take hi2).drop lo2) (i - lo2) leaf (p.take d) = tail →
        Evl (fun k => clash_Leaf.l0 k leaf p (dg l) (x13.set (j : Int).toNat q) (i : Int) (lo2 : Int) (hi2 : Int) (p.length : Int) (wrap64 ((j : Int) + 1))) (fstD (done ++ q :: tail)) := fun q lo2 hi2 tail hq2 g1 g2 g3 g4 g5 => by
      (have hjx : j < x13.length := by omega); (rw [w1 j (by omega), Int.toNat_natCast, ← g5])
      have := leaf_loop l i leaf p hl hi hk hf hp ok last he d (j + 1) lo2 hi2 (done ++ [q]) (x13.set j q) (by omega) g1 g2 g3 g4 (by rw [List.length_set]; exact hx) (by
        rw [List.take_succ_eq_append_getElem (by rw [List.length_set]; exact hjx), List.getElem_set_self, List.take_set_of_le (Nat.le_refl j), hd]) (by rw [List.getElem?_set_ne (by omega)]; exact hlast) (fun r hr => by
          rcases List.mem_or_eq_of_mem_set hr with hr | hr
          · exact hq r hr
          · rw [hr]; exact hq2)
      rw [List.append_assoc] at this; exact this
    by_cases hk2 : i - lo < sp (hi' - lo)
    · have hd' : d = steps (i - lo) (sp (hi' - lo)) := by rw [steps_left hn hk2] at hs; omega
      have e1 : ((l.take (lo + sp (hi' - lo))).drop lo) = ((l.take hi').drop lo).take (sp (hi' - lo)) := by
        rw [List.take_drop, List.take_take, Nat.min_eq_left (by omega)]
      (have e2 : wrap64 ((lo : Int) + (sp (hi' - lo) : Int)) = ((lo + sp (hi' - lo) : Nat) : Int) := by rw [w_ _ (by omega) (by omega)]; omega); (refine Evl.pos (by omega) ?_); (rw [decide_eq_true (show ((i - lo : Nat) : Int) < (sp (hi' - lo) : Int) by omega)]); (refine Evl.step (fun _ => clash_Leaf.j1.eq_2 ..) (Evl.bind (leafE leaf hf.2 (by omega)) (Evl.pos (by omega) (Evl.pos (by omega) ?_)))); rw [Int.toNat_natCast, rdp]; (refine Evl.bind (tclimb_ok leaf (i - lo) (sp (hi' - lo)) (p.take d) hk2 (Nat.le_trans (Nat.le_of_lt k1) hn1) (by rw [hld]; exact hd') okd ht1) ?_); dsimp only; (refine Evl.pos (by omega) ?_); refine Evl.bind (nbE (cl (leafD leaf) (i - lo) (sp (hi' - lo)) (p.take d)) p[d] (cl_size leaf (i - lo) (sp (hi' - lo)) (p.take d)) hsz) ?_; refine Evl.pos rfl ?_; (refine Evl.bind half (Evl.pos (by omega) (Evl.pos (by omega) ?_))); (rw [e2, hpd, pairs_left (by rw [hlen]; exact hn) (by rw [hlen]; exact hk2), hlen]); have hlt2 : i < lo + sp (hi' - lo) := ax1 h1 hk2; have hle2 : lo + sp (hi' - lo) ≤ l.length := ax2 k1 h3; have hb := nb_len (cl_size leaf (i - lo) (sp (hi' - lo)) (p.take d)) hsz; have tl := topD_len (dg_ok ((l.take hi').drop lo)); (have := next ⟨nb (cl (leafD leaf) (i - lo) (sp (hi' - lo)) (p.take d)) p[d], topD (dg ((l.take hi').drop lo))⟩ lo (lo + sp (hi' - lo)) (pairsD (((l.take hi').drop lo).take (sp (hi' - lo))) (i - lo) leaf (p.take d)) ⟨Nat.le_trans (Nat.le_of_eq hb) (by decide), Nat.le_trans (Nat.le_of_eq tl) (by decide)⟩ h1 hlt2 hle2 (by rw [Nat.add_sub_cancel_left]; exact hd') (by rw [e1])); exact this
    · have hd' : d = steps (i - lo - sp (hi' - lo)) (hi' - lo - sp (hi' - lo)) := by rw [steps_right hn hk2] at hs; omega
      (have e1 : ((l.take hi').drop (lo + sp (hi' - lo))) = ((l.take hi').drop lo).drop (sp (hi' - lo)) := by rw [List.drop_drop]); (have e2 : wrap64 ((lo : Int) + (sp (hi' - lo) : Int)) = ((lo + sp (hi' - lo) : Nat) : Int) := by rw [w_ _ (by omega) (by omega)]; omega); have e3 : wrap64 (((i - lo : Nat) : Int) - (sp (hi' - lo) : Int)) = ((i - lo - sp (hi' - lo) : Nat) : Int) := ax5 hk2 (Nat.le_trans (Nat.sub_le_sub_right (Nat.le_of_lt h2) lo) hn1); have e4 : wrap64 (((hi' - lo : Nat) : Int) - (sp (hi' - lo) : Int)) = ((hi' - lo - sp (hi' - lo) : Nat) : Int) := ax5 (Nat.not_lt.2 (Nat.le_of_lt k1)) hn1; have hd2 := Aside0.mk hd'; (have hA := tclimb_ok leaf (i - lo - sp (hi' - lo)) (hi' - lo - sp (hi' - lo)) (p.take d) (ax4 hk2 h1 h2) (Nat.le_trans (Nat.sub_le _ _) hn1) (by rw [hld]; exact hd') okd ht1); (have nlt : ¬ ((i - lo : Nat) : Int) < (sp (hi' - lo) : Int) := fun h => hk2 (Int.ofNat_lt.1 h)); refine Evl.neg nlt ?_; rw [decide_eq_false nlt, e3, e4]; clear e3 e4 nlt hd'; (refine Evl.step (fun _ => clash_Leaf.j1.eq_2 ..) (Evl.bind (leafE leaf hf.2 (by omega)) (Evl.pos (by omega) (Evl.pos (by omega) ?_)))); rw [Int.toNat_natCast, rdp]; refine Evl.bind hA ?_; dsimp only; have hc := cl_size leaf (i - lo - sp (hi' - lo)) (hi' - lo - sp (hi' - lo)) (p.take d); (refine Evl.pos (by omega) ?_); refine Evl.bind (nbE (cl (leafD leaf) (i - lo - sp (hi' - lo)) (hi' - lo - sp (hi' - lo)) (p.take d)) p[d] hc hsz) ?_; (refine Evl.neg (by decide) ?_); refine Evl.bind (nbE p[d] (cl (leafD leaf) (i - lo - sp (hi' - lo)) (hi' - lo - sp (hi' - lo)) (p.take d)) hsz hc) ?_; (refine Evl.bind half (Evl.pos (by omega) (Evl.pos (by omega) ?_))); (rw [e2, hpd, pairs_right (by rw [hlen]; exact hn) (by rw [hlen]; exact hk2), hlen]); have hle3 : lo + sp (hi' - lo) ≤ i := ax3 h1 hk2; have hb := nb_len hsz (cl_size leaf (i - lo - sp (hi' - lo)) (hi' - lo - sp (hi' - lo)) (p.take d)); have ei : i - (lo + sp (hi' - lo)) = i - lo - sp (hi' - lo) := (Nat.sub_sub _ _ _).symm; have eh : hi' - (lo + sp (hi' - lo)) = hi' - lo - sp (hi' - lo) := (Nat.sub_sub _ _ _).symm; have tl := topD_len (dg_ok ((l.take hi').drop lo)); (have := next ⟨nb p[d] (cl (leafD leaf) (i - lo - sp (hi' - lo)) (hi' - lo - sp (hi' - lo)) (p.take d)), topD (dg ((l.take hi').drop lo))⟩ (lo + sp (hi' - lo)) hi' (pairsD (((l.take hi').drop lo).drop (sp (hi' - lo))) (i - lo - sp (hi' - lo)) leaf (p.take d)) ⟨Nat.le_trans (Nat.le_of_eq hb) (by decide), Nat.le_trans (Nat.le_of_eq tl) (by decide)⟩ hle3 h2 h3 (by rw [ei, eh]; exact hd2.out) (by rw [e1, ei])); exact this
def fairD (l : List Bs) (i : Int) (p : List ByteArray) : Prop := 0 ≤ i ∧ i < l.length ∧ okD p = true ∧ p.length = steps i.toNat l.length
theorem cleafE (l : List Bs) (i : Int) (leaf : Bs) (p : List ByteArray) (hl : l.length ≤ 1000) (hk : lok l) (hf : leaf.length ≤ 300 ∧ ∀ x ∈ leaf, 0 ≤ x ∧ x < 256) (hp : p.length ≤ 1000) (h : fairD l i p) : Evl (fun k => clash_Leaf.f k l i leaf p) (fstD (pairsD l i.toNat leaf p)) := by
  obtain ⟨h0, h1, ok, hs⟩ := h; (obtain ⟨n, rfl⟩ : ∃ n : Nat, i = (n : Int) := ⟨i.toNat, by omega⟩); (rw [Int.toNat_natCast] at hs ⊢); (have hn : n < l.length := by omega); have xn := hk _ (List.getElem_mem hn); unfold clash_Leaf.f; (refine Evl.bind (leavesE l (by omega) hk) (Evl.bind (leafE leaf hf.2 (by omega)) (Evl.bind ((tclimbE (leafD leaf) (n : Int) (l.length : Int) p (by omega)).cast (s := (cl (leafD leaf) n l.length p, 0)) ?_) (Evl.pos rfl ?_))))
  · unfold climbA
    rw [if_pos ⟨leafD_size _, by omega, by omega, by omega, by omega⟩, Int.toNat_natCast, Int.toNat_natCast, if_pos ⟨hs, ok⟩]
  (rw [show wrap64 ((p.length : Int) + 1) = ((p.length + 1 : Nat) : Int) by rw [wN (by omega) (by omega)]; omega, Int.toNat_natCast]); (refine Evl.pos (by omega) (Evl.pos (by omega) (Evl.some_bind (Evl.bind (lbE leaf hf.2 (by omega)) (Evl.pos (by omega) (Evl.pos (by omega) ?_)))))); rw [rd_at2 l n hn, Int.toNat_natCast]; (refine Evl.bind (lbE _ xn.2 (by omega)) (Evl.pos (by omega) (Evl.pos (by rw [List.length_replicate]; omega) ?_)))
  have := leaf_loop l n leaf p (by omega) hn hk hf hp ok ⟨0 :: leaf, 0 :: l[n]⟩ rfl p.length 0 0 l.length [] ((List.replicate (p.length + 1) z77).set p.length ⟨0 :: leaf, 0 :: l[n]⟩) (by omega) (Nat.zero_le _) hn (Nat.le_refl _) hs (by rw [List.length_set, List.length_replicate]) rfl (by rw [List.getElem?_set_self (by rw [List.length_replicate]; omega)]) (fun q hq => by
    rcases List.mem_or_eq_of_mem_set hq with hq | hq
    · rw [(List.mem_replicate.1 hq).2]; exact z77_ok
    · rw [hq]; exact ⟨by simp only [List.length_cons]; omega, by simp only [List.length_cons]; omega⟩)
  rw [List.nil_append, List.take_length, List.drop_zero, Nat.sub_zero, List.take_length] at this; exact this
theorem cleafE_no (l : List Bs) (i : Int) (leaf : Bs) (p : List ByteArray) (hl : l.length ≤ 1000) (hk : lok l) (hf : leaf.length ≤ 300 ∧ ∀ x ∈ leaf, 0 ≤ x ∧ x < 256) (hp : p.length ≤ 1000) (h : ¬ fairD l i p) : Evl (fun k => clash_Leaf.f k l i leaf p) (([] : Bs), ([] : Bs), false) := by
  unfold clash_Leaf.f; (refine Evl.bind (leavesE l (by omega) hk) (Evl.bind (leafE leaf hf.2 (by omega)) (Evl.bind (tclimbE (leafD leaf) i (l.length : Int) p (by omega)) (Evl.neg ?_ (Evl.ret _))))); unfold climbA
  by_cases c : (leafD leaf).size = 32 ∧ 1 ≤ (l.length : Int) ∧ (l.length : Int) ≤ 1099511627776 ∧ 0 ≤ i ∧ i < (l.length : Int)
  · rw [if_pos c]
    by_cases c2 : p.length = steps i.toNat (l.length : Int).toNat ∧ okD p = true
    · rw [Int.toNat_natCast] at c2
      exact absurd ⟨c.2.2.2.1, c.2.2.2.2, c2.2, c2.1⟩ h
    · rw [if_neg c2]; simp
  · rw [if_neg c]; simp
theorem rleaf8E : ∀ (n : Nat) (l : List Bs) (i : Nat) (leaf : Bs) (p : List ByteArray), l.length = n → i < n → n ≤ 1000 → lok l → (leaf.length ≤ 300 ∧ ∀ x ∈ leaf, 0 ≤ x ∧ x < 256) → p.length = steps i n → p.length ≤ 1000 → okD p = true → Evl (fun k => rubrickref08_Leaf.f k l (i : Int) leaf p) (fstD (pairsD l i leaf p)) := by
  intro n
  induction n using Nat.strongRecOn with
  | _ n ih =>
    intro l i leaf p hl hi hn hk hf hp hpl ok; (refine Evl.step (fun _ => rubrickref08_Leaf.f.eq_2 ..) ?_)
    by_cases h : l.length < 2
    · rw [pairs_one h]
      (have x0 := hk l[0] (List.getElem_mem (by omega))); (have e0 : l.headD [] = l[0] := by cases l with | nil => simp at hl; omega | cons => rfl); (have r0 := rd_at2 l 0 (by omega)); rw [Int.natCast_zero] at r0; rw [r0, e0]; (exact Evl.pos (by omega) (Evl.bind (bytesE 0 (by omega) _ (by omega)) (Evl.pos (by omega) (Evl.bind (bytesE 0 (by omega) _ (by omega)) (Evl.bind (rbetweenE _ _ (cons_range (by omega) hf.2) (cons_range (by omega) x0.2) (by simp only [List.length_cons]; omega) (by simp only [List.length_cons]; omega)) (Evl.ret' rfl))))))
    (have k1 := sp_lt (n := l.length) (by omega)); have k2 := sp_pos l.length; have tl := topD_len (dg_ok l); have tr := topD_range (dg l); (have ht := topE (dg l) (by rw [dg_len]; omega) (by rw [dg_len]; omega) (dg_ok l))
    by_cases hk2 : i < sp l.length
    · rw [← hl, steps_left (by omega) hk2] at hp
      obtain ⟨q, d, rfl, hq⟩ := split_last hp; obtain ⟨okq, hd⟩ := okD_app ok; (have e1 : wrap64 (((q ++ [d]).length : Int) - 1) = (q.length : Int) := by rw [List.length_append, List.length_singleton, wN (by omega) (by omega)]; omega); (have e2 : rdOf ByteArray.empty (q ++ [d]) (q.length : Int) = d := by rw [rd_at _ _ q.length (by simp)]; simp); (have e3 : (q ++ [d]).take (q.length : Int).toNat = q := by rw [Int.toNat_natCast]; simp); (have e4 : (q ++ [d]).length = q.length + 1 := by simp); (refine Evl.neg (by omega) (Evl.bind ((rsplitE _).cast (splitN_nat (by omega) (by omega))) ?_)); rw [e1, e2, e3]; (refine Evl.pos (by omega) (Evl.pos (by omega) (Evl.pos (by omega) (Evl.bind (rleavesE l (by omega) hk) (Evl.bind ht (Evl.bind (rleafE leaf hf.2 (by omega)) (Evl.pos (by omega) (Evl.bind (rclimbE (sp l.length) i (leafD leaf) q hk2 (by omega) hq okq (leafD_size _)) ?_)))))))); have hc := cl_size leaf i (sp l.length) q; have hb := nb_len hc hd; (rw [pairs_left (by omega) hk2, fstD_cons]); (refine Evl.bind (bytes8E _ _ (Nat.le_trans (Nat.le_of_eq hc) (by decide)) (Nat.le_trans (Nat.le_of_eq hd) (by decide))) (Evl.bind (rbetweenE _ _ (nb_range _ _) tr (Nat.le_trans (Nat.le_of_eq hb) (by decide)) (Nat.le_trans (Nat.le_of_eq tl) (by decide))) ?_))
      by_cases c : (btw (nb (cl (leafD leaf) i (sp l.length) q) d) (topD (dg l))).2.2 = true
      · rw [if_pos c]; exact Evl.pos c (Evl.ret' (tri c))
      rw [if_neg c]; (refine Evl.neg c (Evl.pos (by omega) (Evl.pos (by omega) ?_))); rw [Int.toNat_natCast]; (exact Evl.bind (ih (sp l.length) (by omega) _ i leaf q (by rw [List.length_take]; omega) hk2 (by omega) (lok_take hk _) hf hq (by omega) okq) (Evl.ret' trf))
    · rw [← hl, steps_right (by omega) hk2] at hp
      obtain ⟨q, d, rfl, hq⟩ := split_last hp; obtain ⟨okq, hd⟩ := okD_app ok; (have e1 : wrap64 (((q ++ [d]).length : Int) - 1) = (q.length : Int) := by rw [List.length_append, List.length_singleton, wN (by omega) (by omega)]; omega); (have e2 : rdOf ByteArray.empty (q ++ [d]) (q.length : Int) = d := by rw [rd_at _ _ q.length (by simp)]; simp); (have e3 : (q ++ [d]).take (q.length : Int).toNat = q := by rw [Int.toNat_natCast]; simp); (have e4 : (q ++ [d]).length = q.length + 1 := by simp); (have e5 : wrap64 ((i : Int) - (sp l.length : Int)) = ((i - sp l.length : Nat) : Int) := by rw [wN (by omega) (by omega)]; omega); (have e6 : wrap64 ((l.length : Int) - (sp l.length : Int)) = ((l.length - sp l.length : Nat) : Int) := by rw [wN (by omega) (by omega)]; omega); (refine Evl.neg (by omega) (Evl.bind ((rsplitE _).cast (splitN_nat (by omega) (by omega))) ?_)); rw [e1, e2, e3, e5, e6]; (refine Evl.pos (by omega) (Evl.pos (by omega) (Evl.pos (by omega) (Evl.bind (rleavesE l (by omega) hk) (Evl.bind ht (Evl.bind (rleafE leaf hf.2 (by omega)) (Evl.neg (by omega) (Evl.bind (rclimbE (l.length - sp l.length) (i - sp l.length) (leafD leaf) q (by omega) (by omega) hq okq (leafD_size _)) ?_)))))))); have hc := cl_size leaf (i - sp l.length) (l.length - sp l.length) q; have hb := nb_len hd hc; (rw [pairs_right (by omega) hk2, fstD_cons]); (refine Evl.bind (bytes8E _ _ (Nat.le_trans (Nat.le_of_eq hd) (by decide)) (Nat.le_trans (Nat.le_of_eq hc) (by decide))) (Evl.bind (rbetweenE _ _ (nb_range _ _) tr (Nat.le_trans (Nat.le_of_eq hb) (by decide)) (Nat.le_trans (Nat.le_of_eq tl) (by decide))) ?_))
      by_cases c : (btw (nb d (cl (leafD leaf) (i - sp l.length) (l.length - sp l.length) q)) (topD (dg l))).2.2 = true
      · rw [if_pos c]; exact Evl.pos c (Evl.ret' (tri c))
      rw [if_neg c]; (refine Evl.neg c (Evl.pos (by omega) (Evl.pos (by omega) ?_))); rw [Int.toNat_natCast]; (exact Evl.bind (ih (l.length - sp l.length) (by omega) _ (i - sp l.length) leaf q (by rw [List.length_drop]) (by omega) (by omega) (lok_drop hk _) hf hq (by omega) okq) (Evl.ret' trf))
theorem fair8E (l : List Bs) (i : Int) (p : List ByteArray) (hl : l.length ≤ 1000) (hp : p.length ≤ 1000) : ∃ b : Bool, Evl (fun k => rubrickref08_Fair.f k l i p) b ∧ (b = true ↔ fairD l i p) := by
  unfold rubrickref08_Fair.f fairD
  by_cases h1 : i ≥ 0
  rotate_left
  · exact ⟨false, Evl.neg h1 (Evl.ret _), ⟨fun h => (by cases h), fun h => by omega⟩⟩
  by_cases h2 : i < (l.length : Int)
  rotate_left
  · exact ⟨false, Evl.pos h1 (Evl.neg h2 (Evl.ret _)), ⟨fun h => (by cases h), fun h => by omega⟩⟩
  by_cases ok : okD p = true
  rotate_left
  · exact ⟨false, Evl.pos h1 (Evl.pos h2 (Evl.bind (rrightE p (by omega)) (Evl.neg ok (Evl.ret _)))), ⟨fun h => (by cases h), fun h => absurd h.2.2.1 ok⟩⟩
  (obtain ⟨n, rfl⟩ : ∃ n : Nat, i = (n : Int) := ⟨i.toNat, by omega⟩); rw [Int.toNat_natCast]; (refine ⟨_, Evl.pos h1 (Evl.pos h2 (Evl.bind (rrightE p (by omega)) (Evl.pos ok (Evl.bind (rstepsE l.length n (by omega) (by omega)) (Evl.ret _))))), ?_⟩); rw [beq_iff_eq]; (exact ⟨fun h => ⟨by omega, h2, ok, by omega⟩, fun h => by omega⟩)
end Go.Proofs.YtpmefpdafkbphaaDoor.PureClash

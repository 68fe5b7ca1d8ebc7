import Derived.Test.YtpmefpdafkbphaaDoorZfPL
import Derived.Test.YtpmefpdafkbphaaDoorZfPureS
import Derived.Test.YtpmefpdafkbphaaDoorZfEvl
import Derived.Test.YtpmefpdafkbphaaDoorZfPClashFinds
import Derived.Test.YtpmefpdafkbphaaDoorZfPureClash3
namespace Go.Proofs.YtpmefpdafkbphaaDoor.PureClash
open Go.RowKit PL PureS Evl
theorem knows08E : Evl (fun k => (rubricklaw08_knows.f k).bind fun t => some t) true :=
  Evl.bind (f := fun k => rubricklaw08_knows.f k) ⟨_, up rubricklaw08_knows.mono rubricklaw08_knows.sure⟩ (Evl.ret _)
end Go.Proofs.YtpmefpdafkbphaaDoor.PureClash
namespace Go.Proofs.YtpmefpdafkbphaaDoor.Pure
open Go.RowKit HSha PS PT PB PC PQ PL PClashFinds PureS PureO PureSealU PureTree PureClash Thy Evl Go.Proofs.YtpmefpdafkbphaaDoorW.PrintWords Go.Proofs.YtpmefpdafkbphaaDoorW.PrintLast Go.Proofs.YtpmefpdafkbphaaDoorW.PrintMore
set_option linter.unusedVariables false
theorem rd_at1 (l : List (List Int)) (i : Nat) (h : i < l.length) : PClashFinds.rd_L1 l (i : Int) = l[i] := by
  unfold PClashFinds.rd_L1; rw [Int.toNat_natCast, List.getD_eq_getElem?_getD, List.getElem?_eq_getElem h]; rfl
theorem path_fair (l : List Bs) (i : Nat) (hi : i < l.length) (hl : l.length ≤ 25) : fairD l (i : Int) (path nodeD emptyD (dg l) i) ∧ (path nodeD emptyD (dg l) i).length ≤ 100 := by
  have hp := path_len nodeD emptyD l.length (dg l) i (dg_len l) hi; (have hs := steps_le 5 l.length i (by omega) hi); (refine ⟨⟨by omega, by omega, path_ok l.length (dg l) i (dg_len l) (dg_ok l), by rw [Int.toNat_natCast]; exact hp⟩, ?_⟩); rw [hp]; (exact Nat.le_trans hs (by decide))
theorem ClashFinds (l : List (List Int)) (i : Int) (leaf : List Int) (p : List ByteArray) (hl : l.length ≤ 9223372036854775807 ∧ ∀ x ∈ l, x.length ≤ 9223372036854775807 ∧ ∀ y ∈ x, (Lit.int .u8 y).wf = true) (_ : (Lit.int .i64 i).wf = true) (hf : leaf.length ≤ 9223372036854775807 ∧ ∀ y ∈ leaf, (Lit.int .u8 y).wf = true) (hp : p.length ≤ 9223372036854775807 ∧ ∀ x ∈ p, x.size ≤ 9223372036854775807) : ∃ k, rubricklaw08_ClashFinds.f k l i leaf p = some true := by
  (refine Evl.ex (f := fun k => rubricklaw08_ClashFinds.f k l i leaf p) ?_); have rf := bytes_wf hf.2; (have out : Evl (fun k => rubricklaw08_ClashFinds.j0 k l i leaf p true) true := Evl.step (fun _ => rubricklaw08_ClashFinds.j0.eq_2 ..) (Evl.pos rfl knows08E)); unfold rubricklaw08_ClashFinds.f; refine Evl.bind (great8E l hl.1) ?_; cases hg : great8 l; rotate_left
  · exact Evl.pos rfl out
  (refine Evl.neg (by decide) ?_); have ok := great8_lok hg hl.2; have nl := great8_len hg
  by_cases h1 : (leaf.length : Int) > 300
  · exact Evl.pos h1 out
  refine Evl.neg h1 (Evl.bind (greatE p hp.1) ?_); cases hg2 : greatD p; rotate_left
  · exact Evl.pos rfl out
  have np := great_len hg2; (have hF : leaf.length ≤ 300 ∧ ∀ x ∈ leaf, 0 ≤ x ∧ x < 256 := ⟨by omega, rf⟩); (refine Evl.neg (by decide) ?_)
  by_cases h2 : i < 0
  · exact Evl.pos h2 out
  refine Evl.neg h2 ?_
  by_cases h3 : i ≥ (l.length : Int)
  · rw [decide_eq_true h3]; exact out
  rw [decide_eq_false h3]; (obtain ⟨n, rfl⟩ : ∃ n : Nat, i = (n : Int) := ⟨i.toNat, by omega⟩); (have hn : n < l.length := by omega)
  obtain ⟨t, ht, t1, t2, t3⟩ : ∃ t : C3, Evl (fun k => clash_Leaf.f k l (n : Int) leaf p) t ∧ (t.2.2 = true → isB t.1 t.2.1 = true) ∧ t.1.length ≤ 301 ∧ t.2.1.length ≤ 301 := by
    by_cases hfair : fairD l (n : Int) p
    · have h := hfair
      obtain ⟨_, _, okp, hs⟩ := h; rw [Int.toNat_natCast] at hs; have hx := fst_len (pairs_len l.length l n leaf p rfl hn ok hF.1 hs okp); (have := cleafE l (n : Int) leaf p (by omega) ok hF (by omega) hfair); rw [Int.toNat_natCast] at this; exact ⟨_, this, fst_is, hx⟩
    · exact ⟨_, cleafE_no l (n : Int) leaf p (by omega) ok hF (by omega) hfair, fun h => (by cases h), by simp, by simp⟩
  have is1 : Evl (fun _ => seal_Is.f t.1 t.2.1) (isB t.1 t.2.1) := Evl.of 0 fun _ _ => isF _ _ (by omega) (by omega)
  have tail : Evl (fun k => rubricklaw08_ClashFinds.j1 k l (n : Int) (dg l) t.2.2 false t.1 t.2.1) true := by
    obtain ⟨fr, fl⟩ := path_fair l n hn nl; have xn := ok _ (List.getElem_mem hn); have hown := pairs_own l.length l n l[n] rfl (List.getElem?_eq_getElem hn); (have hc := cleafE l (n : Int) l[n] (path nodeD emptyD (dg l) n) (by omega) ok xn (Nat.le_trans fl (by decide)) fr); rw [Int.toNat_natCast] at hc; (have hpth := (tpathE (dg l) (by rw [dg_len]; omega) (n : Int)).cast (if_pos ⟨dg_ok l, by omega, by rw [dg_len]; omega⟩)); rw [Int.toNat_natCast] at hpth; (refine Evl.step (fun _ => rubricklaw08_ClashFinds.j1.eq_2 ..) (Evl.neg (by decide) (Evl.bind hpth (Evl.pos (by omega) (Evl.pos (by omega) ?_))))); rw [rd_at1 l n hn]; (refine Evl.bind hc (Evl.pos rfl (Evl.neg (by rw [hown]; decide) ?_)))
    by_cases h : t.2.2 = true
    · exact Evl.pos h (Evl.bind is1 (Evl.pos (t1 h) knows08E))
    · exact Evl.neg h knows08E
  refine Evl.step (fun _ => rubricklaw08_ClashFinds.j0.eq_2 ..) (Evl.neg (by decide) (Evl.bind (rleavesE l (by omega) ok) (Evl.bind (rleafE leaf rf (by omega)) (Evl.bind (tclimbE (leafD leaf) (n : Int) (l.length : Int) p (by omega)) (Evl.bind ht ?_)))))
  by_cases hfair : p.length = steps n l.length ∧ okD p = true
  rotate_left
  · have e : (climbA (leafD leaf) (n : Int) (l.length : Int) p).2 ≠ 0 := by
      unfold climbA; (rw [if_pos ⟨leafD_size _, by omega, by omega, by omega, by omega⟩, Int.toNat_natCast, Int.toNat_natCast, if_neg hfair]); decide
    exact Evl.neg e tail
  have e : climbA (leafD leaf) (n : Int) (l.length : Int) p = (cl (leafD leaf) n l.length p, 0) := by
    unfold climbA; (rw [if_pos ⟨leafD_size _, by omega, by omega, by omega, by omega⟩, Int.toNat_natCast, Int.toNat_natCast, if_pos hfair])
  rw [e]; (refine Evl.pos rfl (Evl.bind (rrootE _ (dg l) rfl (by rw [dg_len]; omega) (dg_ok l)) ?_))
  by_cases hr : (cl (leafD leaf) n l.length p).toList = (rootD (dg l)).toList
  rotate_left
  · exact Evl.neg hr tail
  (refine Evl.pos hr (Evl.pos (by omega) (Evl.pos (by omega) ?_))); rw [rd_at1 l n hn]
  by_cases hx : (strOfNums leaf).toList = (strOfNums l[n]).toList
  · rw [show ((strOfNums leaf).toList != (strOfNums l[n]).toList) = false from bne_eq_false_iff_eq.mpr hx]
    exact tail
  · rw [show ((strOfNums leaf).toList != (strOfNums l[n]).toList) = true from bne_iff_ne.mpr hx]
    have htt : t.2.2 = true := by
      (have hc := cleafE l (n : Int) leaf p (by omega) ok hF (by omega) ⟨by omega, by omega, hfair.2, by rw [Int.toNat_natCast]; exact hfair.1⟩); rw [Int.toNat_natCast] at hc; have et := Evl.uniq ht hc; cases hh : t.2.2
      · rw [et] at hh
        have := pairs_finds l.length l n leaf p rfl hn ok rf hfair.1 hfair.2 hh (toList_inj hr); rw [List.getElem?_eq_getElem hn] at this; (exact absurd (by rw [Option.some.inj this]) hx)
      · rfl
    exact Evl.step (fun _ => rubricklaw08_ClashFinds.j1.eq_2 ..) (Evl.pos rfl (Evl.pos htt (Evl.bind is1 (Evl.pos (t1 htt) knows08E))))
end Go.Proofs.YtpmefpdafkbphaaDoor.Pure

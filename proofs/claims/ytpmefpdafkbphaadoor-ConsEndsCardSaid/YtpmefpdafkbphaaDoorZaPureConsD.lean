import Derived.Test.YtpmefpdafkbphaaDoorZaPureConsK
import Derived.Test.YtpmefpdafkbphaaDoorZaPureCons5
namespace Go.Proofs.YtpmefpdafkbphaaDoor.PureCons
open Go.RowKit Go.Proofs.YtpmefpdafkbphaaDoor.HSha Go.Proofs.YtpmefpdafkbphaaDoor.PS Go.Proofs.YtpmefpdafkbphaaDoor.PT Go.Proofs.YtpmefpdafkbphaaDoor.PB Go.Proofs.YtpmefpdafkbphaaDoor.PC Go.Proofs.YtpmefpdafkbphaaDoor.PP Go.Proofs.YtpmefpdafkbphaaDoor.PK Go.Proofs.YtpmefpdafkbphaaDoor.HNode Go.Proofs.YtpmefpdafkbphaaDoor.PureS Go.Proofs.YtpmefpdafkbphaaDoor.PureO Go.Proofs.YtpmefpdafkbphaaDoor.PureTree Go.Proofs.YtpmefpdafkbphaaDoor.Thy Go.Proofs.YtpmefpdafkbphaaDoor.Evl Go.Proofs.YtpmefpdafkbphaaDoorW.PrintWords Go.Proofs.YtpmefpdafkbphaaDoorW.PrintLast
set_option linter.unusedVariables false
/-- Digests of the leaves that are looked at. -/
def digs (l : List (List Int)) (n : Nat) : List ByteArray := ((l.take n).filter fun b => decide (b.length ≤ 1000)).map leafD
def bytesOk (l : List (List Int)) : Prop := ∀ b ∈ l, ∀ x ∈ b, 0 ≤ x ∧ x < 256
theorem rdl_at (l : List (List Int)) (i : Nat) (h : i < l.length) : PK.rd_L1 l (i : Int) = l[i] := by
  unfold PK.rd_L1
  rw [Int.toNat_natCast, List.getD_eq_getElem?_getD, List.getElem?_eq_getElem h]
  rfl
theorem digs_loop (l : List (List Int)) (hl : l.length ≤ 9223372036854775807) (hb : bytesOk l) : ∀ (d i : Nat) (acc : List ByteArray), i + d = min 40 l.length → acc.length ≤ i →
    Evl (fun k => rubricklaw07_digests.l0 k l acc (i : Int)) (acc ++ (((l.take 40).drop i).filter fun b => decide (b.length ≤ 1000)).map leafD)
  | 0, i, acc, h, ha => by
    have e : (l.take 40).drop i = [] := List.drop_eq_nil_of_le (by rw [List.length_take]; omega)
    rw [e]
    refine Evl.step (fun _ => rubricklaw07_digests.l0.eq_2 ..) ?_
    by_cases hi : (i : Int) < (l.length : Int)
    · rw [decide_eq_false (show ¬ (i : Int) < 40 by omega)]
      exact Evl.pos hi (Evl.step (fun _ => rubricklaw07_digests.j1.eq_2 ..) (Evl.neg (by simp) (Evl.ret' (by simp))))
    · exact Evl.neg hi (Evl.step (fun _ => rubricklaw07_digests.j1.eq_2 ..) (Evl.neg (by simp) (Evl.ret' (by simp))))
  | d + 1, i, acc, h, ha => by
    have hi : i < l.length := by omega
    have hit : i < (l.take 40).length := by rw [List.length_take]; omega
    have e0 : (l.take 40)[i] = l[i] := by simp
    rw [List.drop_eq_getElem_cons hit, e0]
    refine Evl.step (fun _ => rubricklaw07_digests.l0.eq_2 ..) (Evl.pos (by omega) ?_)
    rw [decide_eq_true (show (i : Int) < 40 by omega)]
    refine Evl.step (fun _ => rubricklaw07_digests.j1.eq_2 ..) (Evl.pos rfl (Evl.pos (by omega) (Evl.pos (by omega) ?_)))
    rw [rdl_at l i hi]
    have e : wrap64 ((i : Int) + 1) = ((i + 1 : Nat) : Int) := by unfold wrap64; omega
    rw [e]
    by_cases hs : (l[i].length : Int) ≤ 1000
    · refine Evl.pos hs (Evl.bind (rleafE _ (hb _ (List.getElem_mem hi)) (by omega)) (Evl.pos (by omega) ?_))
      refine (digs_loop l hl hb d (i + 1) (acc ++ [leafD l[i]]) (by omega) (by simp; omega)).cast ?_
      have : l[i].length ≤ 1000 := by omega
      rw [List.filter_cons_of_pos (by simpa using this), List.map_cons, List.append_assoc]
      rfl
    · refine Evl.neg hs ?_
      refine (digs_loop l hl hb d (i + 1) acc (by omega) (by omega)).cast ?_
      have : ¬ l[i].length ≤ 1000 := by omega
      rw [List.filter_cons_of_neg (by simpa using this)]
theorem digsE (l : List (List Int)) (hl : l.length ≤ 9223372036854775807) (hb : bytesOk l) : Evl (fun k => rubricklaw07_digests.f k l) (digs l 40) := by
  have := digs_loop l hl hb (min 40 l.length) 0 [] (by omega) (by simp)
  rw [List.drop_zero, List.nil_append] at this
  exact this
theorem digs_len (l : List (List Int)) (n : Nat) : (digs l n).length ≤ n := by
  unfold digs
  rw [List.length_map]
  exact Nat.le_trans (List.length_filter_le _ _) (by rw [List.length_take]; omega)
theorem digs_ok (l : List (List Int)) (n : Nat) : okD (digs l n) = true := by
  unfold digs okD
  rw [List.all_map, List.all_eq_true]
  intro x _
  simp [leafD_size]
theorem bytesOk_of {l : List (List Int)} (h : ∀ x ∈ l, x.length ≤ 9223372036854775807 ∧ ∀ y ∈ x, (Lit.int .u8 y).wf = true) : bytesOk l := fun b hb => bytes_wf (h b hb).2
end Go.Proofs.YtpmefpdafkbphaaDoor.PureCons

import Derived.Test.YtjcfimnijpcjmaaDoorZaHBulk
import Derived.Test.YtjcfimnijpcjmaaDoorProg
import Derived.Below
import Derived.Deep.Draws
import Derived.Deep.AppendLies
import Derived.Maps.AppendAt
import Derived.OwnWalk
import Derived.Laws.BytesArg
import Derived.Laws.MakeOwn
import Derived.Laws.OwnMore
import Derived.Deep.OwnRows
import Derived.Tactics
import Derived.Lib.ConvBytes
import Derived.Laws.Slices
import Derived.WalkKit
import Derived.KernelRfl
import Derived.RowKit3
import Derived.Deep.LoopGhost
import Derived.Deep.QuietTactic
import Derived.BigQuiet
import Derived.WideLaws
import Derived.Deep.DeepCutAuto
import Derived.Deep.CutBlock
import Derived.Deep.RegionHeld3
import Derived.Laws.Rows
import Derived.Lib.AppendStr
import Derived.ArgAppend
import Derived.Laws.IdiomCopy
import Derived.OrdersHeld
import Derived.Laws.BitsLemmas
import Derived.RowKit
import Derived.WalkMore
import Derived.Test.YtjcfimnijpcjmaaDoorZaHShaD
import Derived.Test.YtjcfimnijpcjmaaDoorZaWWords
import Derived.Test.YtjcfimnijpcjmaaDoorZaWLast
import Derived.Test.YtjcfimnijpcjmaaDoorZaWTab
import Derived.Test.YtjcfimnijpcjmaaDoorZaWApart
import Derived.Test.YtjcfimnijpcjmaaDoorZaWFoot
import Derived.Test.YtjcfimnijpcjmaaDoorZaWKept
import Derived.Test.YtjcfimnijpcjmaaDoorZaWShare
import Derived.Test.YtjcfimnijpcjmaaDoorZaWN
import Derived.Laws.StructEq
import Derived.Test.YtjcfimnijpcjmaaDoorZaWRepsOne
import Derived.Test.YtjcfimnijpcjmaaDoorZaWInv
import Derived.Test.YtjcfimnijpcjmaaDoorZaWGuard
import Derived.Test.YtjcfimnijpcjmaaDoorZaWMore
-- PRINTED by print.py (a twelfth state) out of the translation. Not trusted: Lean checks it.
namespace Go.Proofs.YtjcfimnijpcjmaaDoor.PS
open Go.RowKit Go.Proofs.YtjcfimnijpcjmaaDoor Go.Proofs.YtjcfimnijpcjmaaDoor.HSha Go.Proofs.YtjcfimnijpcjmaaDoorW.PrintWords Go.Proofs.YtjcfimnijpcjmaaDoorW.PrintLast Go.Proofs.YtjcfimnijpcjmaaDoorW.PrintMore
attribute [local go_sem] max2_int min2_int max_two min_two max_three min_three max_four min_four   -- for this text's walks alone
set_option linter.unusedVariables false
set_option linter.unusedSimpArgs false
def errW : Option Int → Value
 | none => .nilIface
 | some c => .iface 0 (.int .i64 c)
theorem errW_none : errW none = .nilIface := rfl
theorem errW_some (c : Int) : errW (some c) = .iface 0 (.int .i64 c) := rfl
theorem info5 : (Tryd.prog.info? 5).map (fun i => (i.zero, i.size, i.bytes)) = some (some (.int .u8 0), 1, 1) := by kernel_rfl
-- the values' own types
end Go.Proofs.YtjcfimnijpcjmaaDoor.PS
namespace Go.Proofs.YtjcfimnijpcjmaaDoor.PS
open Go.RowKit Go.Proofs.YtjcfimnijpcjmaaDoor Go.Proofs.YtjcfimnijpcjmaaDoor.HSha Go.Proofs.YtjcfimnijpcjmaaDoorW.PrintWords Go.Proofs.YtjcfimnijpcjmaaDoorW.PrintLast Go.Proofs.YtjcfimnijpcjmaaDoorW.PrintMore
attribute [local go_sem] max2_int min2_int max_two min_two max_three min_three max_four min_four   -- for this text's walks alone
set_option linter.unusedVariables false
set_option linter.unusedSimpArgs false
/-! ### seal_put: function 39 -/
/-! ### seal_LeafBytes: function 15 -/
/-! ### seal_Leaf: function 19 -/
/-! ### seal_NodeBytes: function 16 -/
/-! ### seal_Node: function 24 -/
/-! ### seal_PostsBytes: function 17 -/
/-! ### seal_Posts: function 21 -/
/-! ### seal_HeadBytes: function 18 -/
/-! ### seal_Head: function 22 -/
/-! ### sha_Hex: function 34 -/
def sha_Hex.l0 : Nat → ByteArray → List Int → Int → Int → Option (ByteArray)
 | 0, _, _, _, _ => none
 | k + 1, x0, x3, x6, x7 => if x7 < x6 then (if 0 ≤ x7 then (if x7 < (x0.size : Int) then (if 0 ≤ ((bt x0 x7) / 16) then (if ((bt x0 x7) / 16) < 16 then (if 0 ≤ (Go.bits .and .u8 (bt x0 x7) 15) then (if (Go.bits .and .u8 (bt x0 x7) 15) < 16 then ((some (([bt (⟨#[48, 49, 50, 51, 52, 53, 54, 55, 56, 57, 97, 98, 99, 100, 101, 102]⟩ : ByteArray) ((bt x0 x7) / 16), bt (⟨#[48, 49, 50, 51, 52, 53, 54, 55, 56, 57, 97, 98, 99, 100, 101, 102]⟩ : ByteArray) (Go.bits .and .u8 (bt x0 x7) 15)] : List Int) : List Int)).bind fun y148 => (if x3.length + y148.length < 140737488355328 then (sha_Hex.l0 k x0 (x3 ++ y148) x6 (wrap64 (x7 + 1))) else (none))) else (none)) else (none)) else (none)) else (none)) else (none)) else (none)) else (some (strOfNums x3))
def sha_Hex.f (k : Nat) (a0 : ByteArray) : Option (ByteArray) := sha_Hex.l0 k a0 ([] : List Int) (a0.size : Int) 0
theorem sha_Hex.mono_l : ∀ k, (∀ y0 y1 y2 y3, LeO (sha_Hex.l0 k y0 y1 y2 y3) (sha_Hex.l0 (k + 1) y0 y1 y2 y3))
 | 0 => fun _ _ _ _ r h => by simp [sha_Hex.l0] at h
 | k + 1 => by
  have ih0 := sha_Hex.mono_l k
  ·intro y0 y1 y2 y3
   unfold sha_Hex.l0
   repeat' first
   | (with_reducible exact ih0 _ _ _ _)
   | (with_reducible exact LeO.refl _)
   | (with_reducible exact LeO.none _)
   | (with_reducible refine LeO.ite ?_ ?_)
   | (with_reducible refine LeO.bind ?_ (fun _ => ?_))
theorem sha_Hex.mono : ∀ a0 k, LeO (sha_Hex.f k a0) (sha_Hex.f (k + 1) a0) := by
 intro a0 k
 have ih0 := sha_Hex.mono_l k
 unfold sha_Hex.f
 repeat' first
   | (with_reducible exact ih0 _ _ _ _)
   | (with_reducible exact LeO.refl _)
   | (with_reducible exact LeO.none _)
   | (with_reducible refine LeO.ite ?_ ?_)
   | (with_reducible refine LeO.bind ?_ (fun _ => ?_))
def sha_Hex.T5 : Bool × List (List Nat × List Nat) := (true, [([], []), ([], []), ([], []), ([1, 2], [1, 2]), ([3], [3]), ([4], [4]), ([], []), ([], []), ([6, 7], [6, 7]), ([8], [8]), ([9], [9]), ([5, 10], [5, 10]), ([0, 11], [0, 11]), ([12, 12, 0, 1, 2, 3, 4, 5, 6, 7, 8, 9, 10, 11, 12], [0, 12])])
def sha_Hex.B5 : List Nat := [0, 0, 0, 6, 14, 30, 0, 0, 192, 448, 960, 2046, 4095, 8191]
theorem sha_Hex.tab5 : rtab .any (opsOf Tryd.f34 5) = sha_Hex.T5 := by kernel_rfl
theorem sha_Hex.bits5 : waitsOk sha_Hex.T5.2 sha_Hex.B5 = true := by kernel_rfl
set_option maxHeartbeats 8000000 in
set_option maxRecDepth 100000 in
theorem sha_Hex.calls (k : Nat) (a0 : ByteArray) (r : ByteArray) (w : World) (h : sha_Hex.f k a0 = some r) :
  Calls Tryd.prog 34 #[.string a0] w fun e w' => e = .returned (.string r) ∧ Below w.heap.size w w' := by
 have HB := Aside0.mk (Below.refl w.heap.size w)
 have H : (sha_Hex.l0 k a0 ([] : List Int) (a0.size : Int) 0) = some r := h
 clear h
 have H' := Aside0.mk H
 clear H
 go_enter Tryd.func34, Tryd.ntmps34
 go_wp2
 go_loopg [3, 7] k (fun kq v3 v7 w' => ∃ (x3_1 : List Int) (x7_1 : Int), v7 = .int .i64 x7_1 ∧ Aside0 (sha_Hex.l0 kq a0 x3_1 (a0.size : Int) x7_1 = some r) ∧ Aside0 (kq ≤ k) ∧ Aside0 (Kd.R (Kd.int .u8) 5 w' w.heap.size (fun _ => True) v3 x3_1) ∧ Aside0 (Below w.heap.size w w'))
 case atStart => exact ⟨(([] : List Int)), (0), (by first | rfl | (simp; done) | (simp [*]; done)), H', ⟨Nat.le_refl _⟩, ⟨by first | exact Kd.R_nil _ _ _ _ _ | exact Kd.N_nil _ _ _ _ _ | exact Kd.V_nil _ _ _ _ _ | exact Kd.Q_nil _ _ _ _ _ | exact Kd.S_nil _ _ _ _ _⟩, ⟨by repeat (first | (with_reducible first | exact HB.out | apply below_alloc | apply pw_below_drewN | apply below_drew1) | exact HB.out)⟩⟩
 case round =>
  clear H'
  obtain ⟨x3_1, x7_1, rfl, HA, HK1, HO_3, HB⟩ := hrel
  cases gk with
  | zero => exact absurd HA.out (by simp [sha_Hex.l0])
  | succ k1 =>
   have H := HA.out
   clear HA
   simp only [sha_Hex.l0] at H
   by_cases c2 : x7_1 < (a0.size : Int)
   ·rw [if_pos c2] at H
    have c2b0 : decide (x7_1 < (a0.size : Int)) = true := decide_eq_true c2
    clear c2
    by_cases c3 : 0 ≤ x7_1
    ·rw [if_pos c3] at H
     have c3b0 : decide (0 ≤ x7_1) = true := decide_eq_true c3
     clear c3
     by_cases c4 : x7_1 < (a0.size : Int)
     ·rw [if_pos c4] at H
      have c4b0 : decide (x7_1 < (a0.size : Int)) = true := decide_eq_true c4
      clear c4
      obtain ⟨ji6, hji6⟩ : ∃ j_ : Int, ((bt a0 x7_1) / 16) = j_ := ⟨_, rfl⟩
      replace H : (if 0 ≤ (ji6) then (if (ji6) < 16 then (if 0 ≤ (Go.bits .and .u8 (bt a0 x7_1) 15) then (if (Go.bits .and .u8 (bt a0 x7_1) 15) < 16 then ((some (([bt (⟨#[48, 49, 50, 51, 52, 53, 54, 55, 56, 57, 97, 98, 99, 100, 101, 102]⟩ : ByteArray) (ji6), bt (⟨#[48, 49, 50, 51, 52, 53, 54, 55, 56, 57, 97, 98, 99, 100, 101, 102]⟩ : ByteArray) (Go.bits .and .u8 (bt a0 x7_1) 15)] : List Int) : List Int)).bind fun y148 => (if x3_1.length + y148.length < 140737488355328 then (sha_Hex.l0 k1 a0 (x3_1 ++ y148) (a0.size : Int) (wrap64 (x7_1 + 1))) else (none))) else (none)) else (none)) else (none)) else (none)) = some r := by first | (rw [hji6] at H; exact H) | (simp only [hji6] at H ⊢; exact H)
      by_cases c7 : 0 ≤ (ji6)
      ·rw [if_pos c7] at H
       have c7b0 : decide (0 ≤ (ji6)) = true := decide_eq_true c7
       clear c7
       by_cases c8 : (ji6) < 16
       ·rw [if_pos c8] at H
        have c8b0 : decide ((ji6) < 16) = true := decide_eq_true c8
        clear c8
        by_cases c11 : 0 ≤ (Go.bits .and .u8 (bt a0 x7_1) 15)
        ·rw [if_pos c11] at H
         have c11b0 : decide (0 ≤ (Go.bits .and .u8 (bt a0 x7_1) 15)) = true := decide_eq_true c11
         clear c11
         by_cases c12 : (Go.bits .and .u8 (bt a0 x7_1) 15) < 16
         ·rw [if_pos c12] at H
          have c12b0 : decide ((Go.bits .and .u8 (bt a0 x7_1) 15) < 16) = true := decide_eq_true c12
          clear c12
          obtain ⟨y148, hy148⟩ : ∃ y_ : List Int, y_ = (([bt (⟨#[48, 49, 50, 51, 52, 53, 54, 55, 56, 57, 97, 98, 99, 100, 101, 102]⟩ : ByteArray) (ji6), bt (⟨#[48, 49, 50, 51, 52, 53, 54, 55, 56, 57, 97, 98, 99, 100, 101, 102]⟩ : ByteArray) (Go.bits .and .u8 (bt a0 x7_1) 15)] : List Int)) := ⟨_, rfl⟩
          replace H : (if x3_1.length + y148.length < 140737488355328 then (sha_Hex.l0 k1 a0 (x3_1 ++ y148) (a0.size : Int) (wrap64 (x7_1 + 1))) else (none)) = some r := by first | (rw [hy148]; with_reducible exact H) | (have H2_ := (Option.bind_some _ _).symm.trans H; rw [hy148]; with_reducible exact H2_) | (have H2_ := (Option.bind_some _ _).symm.trans H; with_reducible exact H2_) | with_reducible exact H | (rw [hy148]; exact H) | exact H
          have Ny148 := Aside0.mk hy148
          clear hy148
          by_cases c14 : x3_1.length + y148.length < 140737488355328
          ·rw [if_pos c14] at H
           have LMc14 := Aside0.mk c14
           clear c14
           obtain ⟨y151, hy151⟩ : ∃ y_ : List Int, y_ = (x3_1 ++ y148) := ⟨_, rfl⟩
           replace H : (sha_Hex.l0 k1 a0 y151 (a0.size : Int) (wrap64 (x7_1 + 1))) = some r := by first | (rw [hy151]; with_reducible exact H) | (have H2_ := (Option.bind_some _ _).symm.trans H; rw [hy151]; with_reducible exact H2_) | (have H2_ := (Option.bind_some _ _).symm.trans H; with_reducible exact H2_) | with_reducible exact H | (rw [hy151]; exact H) | exact H
           have Ny151 := Aside0.mk hy151
           clear hy151
           have H' := Aside0.mk H
           clear H
           try go_wp2
           have n0_ := Aside0.mk (Kd.R_drew HO_3.out)
           have n1_ := Aside0.mk (below_drew1 HB.out)
           clear HO_3
           clear HB
           have HO_3 := n0_
           have HB := n1_
           clear n0_ n1_
           have p5 : 0 ≤ (x7_1 : Int) := of_decide_eq_true (by first | (with_reducible assumption) | assumption)
           have q5 : x7_1 < (a0.size : Int) := of_decide_eq_true (by first | (with_reducible assumption) | assumption)
           have hx5 := bt_at a0 x7_1
           replace p5 := eq_true p5
           replace q5 := eq_true q5
           have p9 : 0 ≤ ((ji6) : Int) := of_decide_eq_true (by first | (with_reducible assumption) | assumption)
           have q9 : (ji6) < (16 : Int) := of_decide_eq_true (by first | (with_reducible assumption) | assumption)
           have hx9 := bt_at (⟨#[48, 49, 50, 51, 52, 53, 54, 55, 56, 57, 97, 98, 99, 100, 101, 102]⟩ : ByteArray) (ji6)
           replace p9 := eq_true p9
           replace q9 := eq_true q9
           have p10 : 0 ≤ (x7_1 : Int) := of_decide_eq_true (by first | (with_reducible assumption) | assumption)
           have q10 : x7_1 < (a0.size : Int) := of_decide_eq_true (by first | (with_reducible assumption) | assumption)
           have hx10 := bt_at a0 x7_1
           replace p10 := eq_true p10
           replace q10 := eq_true q10
           have p13 : 0 ≤ ((Go.bits .and .u8 (bt a0 x7_1) 15) : Int) := of_decide_eq_true (by first | (with_reducible assumption) | assumption)
           have q13 : (Go.bits .and .u8 (bt a0 x7_1) 15) < (16 : Int) := of_decide_eq_true (by first | (with_reducible assumption) | assumption)
           have hx13 := bt_at (⟨#[48, 49, 50, 51, 52, 53, 54, 55, 56, 57, 97, 98, 99, 100, 101, 102]⟩ : ByteArray) (Go.bits .and .u8 (bt a0 x7_1) 15)
           replace p13 := eq_true p13
           replace q13 := eq_true q13
           refine start_ (n := 14) (S := fun w' => True) (ds := []) #[false, false, false, false, false, false, false, false, false, false, false, false, false, false] (by kernel_rfl) rfl rfl trivial (fun hHeld => ?_); refine with_tabW sha_Hex.tab5 sha_Hex.bits5 (fun HT_ HW_ => ?_)
           generalize wr.drew = w15 at HO_3 HB hHeld ⊢
           refine HBulk.bulkT (fuel := 3) HT_.out HW_.out [(0, some 10, false), (1, some 11, false), (2, some 12, false), (6, some 16, false), (7, some 17, false), (3, some 13, true), (4, some 14, false), (5, some 15, true), (8, some 18, true), (9, some 19, false), (10, some 20, true)] #[true, true, true, true, true, true, true, true, true, true, true, false, false, false] (a' := ?_) (by kernel_rfl) rfl hHeld ?_ ?_
           rotate_left
           ·repeat
             refine HBulk.RunsM.cons (v := ?_) (a1 := ?_) rfl rfl (fun _ _ _ h => h) (by rfl) ?_ ?_ ?_
             rotate_left
             ·intro w' hS_
              go_simp
              with_reducible rfl
             rotate_left
             ·simp only [Act.put, List.setIfInBounds_toArray, List.set_cons_zero, List.set_cons_succ, i64_w, i32_w]
              rfl
            exact HBulk.RunsM.nil
           refine one_ (i := 11) (N := some 21) #[true, true, true, true, true, true, true, true, true, true, true, true, false, false] rfl rfl (one_of HT_.out (by kernel_rfl)) (by decide) (fun K hK => ?_)
           refine Kd.R_lit_step (Kd.int .u8) _ 5 ?hg (N := 21) ?hd (xs := ([bt (⟨#[48, 49, 50, 51, 52, 53, 54, 55, 56, 57, 97, 98, 99, 100, 101, 102]⟩ : ByteArray) (ji6), bt (⟨#[48, 49, 50, 51, 52, 53, 54, 55, 56, 57, 97, 98, 99, 100, 101, 102]⟩ : ByteArray) (Go.bits .and .u8 (bt a0 x7_1) 15)] : List Int)) (inner := [.int .u8 (bt (⟨#[48, 49, 50, 51, 52, 53, 54, 55, 56, 57, 97, 98, 99, 100, 101, 102]⟩ : ByteArray) (ji6)), .int .u8 (bt (⟨#[48, 49, 50, 51, 52, 53, 54, 55, 56, 57, 97, 98, 99, 100, 101, 102]⟩ : ByteArray) (Go.bits .and .u8 (bt a0 x7_1) 15))]) (ok := fun _ => True) (okp := fun _ => True) ?hr ?hp (fun _ hk => hk) trivial (Below.refl _ _) (Nat.le_refl _) (by simp) ?_; (case hd => rfl); (case hg => rfl); (case hr => first | (go_simp; done) | (go_simp; rfl)); (case hp => exact (Reps.one (show Kd.M (Kd.int .u8) _ _ _ (bt (⟨#[48, 49, 50, 51, 52, 53, 54, 55, 56, 57, 97, 98, 99, 100, 101, 102]⟩ : ByteArray) (ji6)) [.int .u8 (bt (⟨#[48, 49, 50, 51, 52, 53, 54, 55, 56, 57, 97, 98, 99, 100, 101, 102]⟩ : ByteArray) (ji6))] from rfl) (Reps.one (show Kd.M (Kd.int .u8) _ _ _ (bt (⟨#[48, 49, 50, 51, 52, 53, 54, 55, 56, 57, 97, 98, 99, 100, 101, 102]⟩ : ByteArray) (Go.bits .and .u8 (bt a0 x7_1) 15)) [.int .u8 (bt (⟨#[48, 49, 50, 51, 52, 53, 54, 55, 56, 57, 97, 98, 99, 100, 101, 102]⟩ : ByteArray) (Go.bits .and .u8 (bt a0 x7_1) 15))] from rfl) (Reps.none _ _))))
           intro v149 w16 ho17 hb hg_ hnew_
           clear hg_ hnew_
           (first | rw [← Ny148.out] at ho17 | (simp only [Int.reduceToNat] at ho17; rw [← Ny148.out] at ho17))
           have n0_ := Aside0.mk (Kd.R_elder' (by (with_reducible repeat (first | apply Kd.R_alloc | apply Kd.R_drewN | apply Kd.R_drew)); exact HO_3.out) (Kd.R_base ho17) hb)
           have n1_ := Aside0.mk (Kd.R_lower (Kd.R_new' ho17 (Kd.R_lt (by (with_reducible repeat (first | apply Kd.R_alloc | apply Kd.R_drewN | apply Kd.R_drew)); exact HO_3.out))) (below_size (by repeat (first | (with_reducible first | exact HB.out | apply below_alloc | apply pw_below_drewN | apply below_drew1) | exact HB.out))))
           have n2_ := Aside0.mk (below_step (by repeat (first | (with_reducible first | exact HB.out | apply below_alloc | apply pw_below_drewN | apply below_drew1) | exact HB.out)) hb)
           clear HO_3
           clear HB
           have HO_3 := n0_
           have HO150 := n1_
           have HB := n2_
           clear n0_ n1_ n2_
           clear hb ho17
           obtain ⟨Ao19, co19, eo19⟩ := Kd.R_slice HO150.out
           (first | subst eo19 | (injection eo19 with f1_ f2_ f3_; have f4_ := f1_.symm; have f5_ := f3_.symm; clear f1_ f2_ f3_; subst f4_; subst f5_))
           refine hK.out _ _ trivial (fun hHeld => ?_)
           clear hK K
           refine norm_ (a' := ?_) ?_ ?_
           rotate_left
           ·show Act.put _ (some 21) _ = _
            simp only [Act.put, List.setIfInBounds_toArray, List.set_cons_zero, List.set_cons_succ, i64_w, i32_w]
            rfl
           refine one_ (i := 12) (N := some 22) #[true, true, true, true, true, true, true, true, true, true, true, true, true, false] rfl rfl (one_of HT_.out (by kernel_rfl)) (by decide) (fun K hK => ?_)
           refine Kd.R_append_rows_step (Kd.int .u8) (w0 := w) w.heap.size (by rfl) (.tmp 10) (.tmp 21) 22 5 (.int .u8 0) 1 rfl Tryd.underlying22 info5 rfl (by decide) (by omega) u3 x3_1 y148 _ _ _ (fun k_ => some k_ ≠ (.slice Ao19 y148.length co19 : Value).ownBlock) (fun _ => False) rfl rfl ?aO ?aR (fun _ _ h => h) (fun _ h => h.elim) ?aF ?aB ?aS ?aL ?_
           (case aR => repeat (first | exact (Kd.R_reads' HO150.out).2.2 | (with_reducible refine Kd.C_alloc ?_ _) | (with_reducible refine Kd.C_drewN ?_ _) | (with_reducible refine Kd.C_drew ?_)))
           (case aB => exact (by repeat (first | (with_reducible first | exact HB.out | apply below_alloc | apply pw_below_drewN | apply below_drew1) | exact HB.out)))
           (case aF => exact (fun k_ hk => Kd.fresh' (Kd.R_lt (by (with_reducible repeat (first | apply Kd.R_alloc | apply Kd.R_drewN | apply Kd.R_drew)); exact HO150.out)) k_ hk))
           (case aO => exact (by (with_reducible repeat (first | apply Kd.R_alloc | apply Kd.R_drewN | apply Kd.R_drew)); exact Kd.R_mono HO_3.out (fun _ hk => hk.2)))
           (case aS => exact (below_size (by repeat (first | (with_reducible first | exact HB.out | apply below_alloc | apply pw_below_drewN | apply below_drew1) | exact HB.out))))
           (case aL => have := LMc14.out; omega)
           intro v152 w18 ho hb hg hat
           rw [← Ny151.out] at ho
           have n0_ := Aside0.mk (Kd.R_after (ok := (fun _ => True)) (by (with_reducible repeat (first | apply Kd.R_alloc | apply Kd.R_drewN | apply Kd.R_drew)); exact HO150.out) hg hat)
           have n1_ := Aside0.mk (hb)
           have n2_ := Aside0.mk (ho)
           clear HO150
           clear HB
           clear HO_3
           have HO150 := n0_
           have HB := n1_
           have HO153 := n2_
           clear n0_ n1_ n2_
           clear ho hb hg hat
           refine hK.out _ _ trivial (fun hHeld => ?_)
           clear hK K
           refine norm_ (a' := ?_) ?_ ?_
           rotate_left
           ·show Act.put _ (some 22) _ = _
            simp only [Act.put, List.setIfInBounds_toArray, List.set_cons_zero, List.set_cons_succ, i64_w, i32_w]
            rfl
           refine pure_ (i := 13) (N := some 3) (v := ?_) (a' := ?_) #[true, true, true, true, true, true, true, true, true, true, true, true, true, true] rfl rfl (any_of HT_.out (by kernel_rfl)) (fun _ _ _ h => h) (Or.inl ⟨by rfl, ?_⟩) ?_ ?_
           rotate_left
           ·intro w'
            go_simp
            with_reducible rfl
           rotate_left
           ·simp only [Act.put, List.setIfInBounds_toArray, List.set_cons_zero, List.set_cons_succ, i64_w, i32_w]
            rfl
           refine done_ (done_of HT_.out (by kernel_rfl)) ?_
           try go_wp2
           go_roundg k1
           case measure => have := HK1.out; omega
           case rel => exact ⟨(y151), (wrap64 (x7_1 + 1)), (by first | rfl | (simp; done) | (simp [*]; done)), H', ⟨by have := HK1.out; omega⟩, ⟨by (with_reducible repeat (first | apply Kd.R_alloc | apply Kd.R_drewN | apply Kd.R_drew)); exact Kd.R_mono HO153.out (fun _ hk => trivial)⟩, ⟨by repeat (first | (with_reducible first | exact HB.out | apply below_alloc | apply pw_below_drewN | apply below_drew1) | exact HB.out)⟩⟩
          ·rw [if_neg c14] at H
           exact absurd H (by simp)
         ·rw [if_neg c12] at H
          exact absurd H (by simp)
        ·rw [if_neg c11] at H
         exact absurd H (by simp)
       ·rw [if_neg c8] at H
        exact absurd H (by simp)
      ·rw [if_neg c7] at H
       exact absurd H (by simp)
     ·rw [if_neg c4] at H
      exact absurd H (by simp)
    ·rw [if_neg c3] at H
     exact absurd H (by simp)
   ·rw [if_neg c2] at H
    have c2b0 : decide (x7_1 < (a0.size : Int)) = false := decide_eq_false c2
    clear c2
    obtain rfl := Option.some.inj H
    have hcv20 := own_string (P := Tryd.prog) Tryd.underlying22 Tryd.underlying5 Tryd.underlying9 (Kd.own_of_R HO_3.out)
    go_wp2
    go_ret
    exact ⟨by first | rfl | (simp [errW_none, errW_some] <;> rfl) | (simp [*, errW_none, errW_some] <;> rfl), by repeat (first | (with_reducible first | exact HB.out | apply below_alloc | apply pw_below_drewN | apply below_drew1) | exact HB.out)⟩
end Go.Proofs.YtjcfimnijpcjmaaDoor.PS
namespace Go.Proofs.YtjcfimnijpcjmaaDoor.PS
open Go.RowKit Go.Proofs.YtjcfimnijpcjmaaDoor Go.Proofs.YtjcfimnijpcjmaaDoor.HSha Go.Proofs.YtjcfimnijpcjmaaDoorW.PrintWords Go.Proofs.YtjcfimnijpcjmaaDoorW.PrintLast Go.Proofs.YtjcfimnijpcjmaaDoorW.PrintMore
attribute [local go_sem] max2_int min2_int max_two min_two max_three min_three max_four min_four   -- for this text's walks alone
set_option linter.unusedVariables false
set_option linter.unusedSimpArgs false
/-! ### seal_Is: function 38 -/
/-! ### rubricklaw03_great: function 13 -/
/-! ### rubricklaw03_knows: function 14 -/
end Go.Proofs.YtjcfimnijpcjmaaDoor.PS

import Derived.Test.YtjcfimnijpcjmaaDoorZcHCmp
import Derived.Test.YtjcfimnijpcjmaaDoorZcHBulk
import Derived.Test.YtjcfimnijpcjmaaDoorZcPSealTwo0
-- PRINTED by print.py (a twelfth state) out of the translation. Not trusted: Lean checks it.
namespace Go.Proofs.YtjcfimnijpcjmaaDoor.PSealTwo
open Go.RowKit Go.Proofs.YtjcfimnijpcjmaaDoor  Go.Proofs.YtjcfimnijpcjmaaDoor.HSha Go.Proofs.YtjcfimnijpcjmaaDoor.PS Go.Proofs.YtjcfimnijpcjmaaDoor.PR Go.Proofs.YtjcfimnijpcjmaaDoor.PT Go.Proofs.YtjcfimnijpcjmaaDoor.HNode Go.Proofs.YtjcfimnijpcjmaaDoorW.PrintWords Go.Proofs.YtjcfimnijpcjmaaDoorW.PrintLast Go.Proofs.YtjcfimnijpcjmaaDoorW.PrintMore
attribute [local go_sem] max2_int min2_int max_two min_two max_three min_three max_four min_four   -- for this text's walks alone
set_option linter.unusedVariables false
set_option linter.unusedSimpArgs false
/-! ### rubricklaw03_SealTwo: function 12 -/
mutual
def rubricklaw03_SealTwo.j0 : Nat → List Int → List Int → ByteArray → ByteArray → ByteArray → ByteArray → Bool → Option (Bool)
 | 0, _, _, _, _, _, _, _ => none
 | k + 1, x0, x1, x2, x3, x4, x5, x46 => if x46 = true then ((rubricklaw03_knows.f k).bind fun t103 => (some t103)) else ((seal_LeafBytes.f k x0).bind fun t104 => ((seal_LeafBytes.f k x1).bind fun t107 => ((seal_Between.f t104 t107).bind fun bt110 => (if (strOfNums x0).toList = (strOfNums x1).toList then (if (bt110.2.2 != false) = true then (rubricklaw03_SealTwo.j1 k x2 x3 x4 x5 true) else (if bt110.2.2 = true then ((seal_Is.f bt110.1 bt110.2.1).bind fun t118 => (rubricklaw03_SealTwo.j1 k x2 x3 x4 x5 (!t118))) else (rubricklaw03_SealTwo.j1 k x2 x3 x4 x5 false))) else ((seal_Leaf.f k x0).bind fun t119 => ((seal_Leaf.f k x1).bind fun t120 => (if (bt110.2.2 != (t119.toList == t120.toList)) = true then (rubricklaw03_SealTwo.j1 k x2 x3 x4 x5 true) else (if bt110.2.2 = true then ((seal_Is.f bt110.1 bt110.2.1).bind fun t121 => (rubricklaw03_SealTwo.j1 k x2 x3 x4 x5 (!t121))) else (rubricklaw03_SealTwo.j1 k x2 x3 x4 x5 false)))))))))
def rubricklaw03_SealTwo.j1 : Nat → ByteArray → ByteArray → ByteArray → ByteArray → Bool → Option (Bool)
 | 0, _, _, _, _, _ => none
 | k + 1, x2, x3, x4, x5, x77 => if x77 = true then (some false) else ((seal_Node.f k x2 x3).bind fun bt122 => ((seal_Node.f k x4 x5).bind fun bt124 => ((seal_NodeBytes.f k x2 x3).bind fun t126 => ((seal_NodeBytes.f k x4 x5).bind fun t129 => ((seal_Between.f t126 t129).bind fun bt132 => (if x2.toList = x4.toList then (if x3.toList = x5.toList then (if (bt132.2.2 != false) = true then (some false) else (if bt132.2.2 = true then ((rubrickref01_Sum.f k bt132.1).bind fun t140 => ((rubrickref01_Sum.f k bt132.2.1).bind fun t141 => (if t140.toList = t141.toList then ((rubricklaw03_knows.f k).bind fun t142 => (some t142)) else (some false)))) else ((rubricklaw03_knows.f k).bind fun t143 => (some t143)))) else (if (bt132.2.2 != (bt122.1.toList == bt124.1.toList)) = true then (some false) else (if bt132.2.2 = true then ((rubrickref01_Sum.f k bt132.1).bind fun t144 => ((rubrickref01_Sum.f k bt132.2.1).bind fun t145 => (if t144.toList = t145.toList then ((rubricklaw03_knows.f k).bind fun t146 => (some t146)) else (some false)))) else ((rubricklaw03_knows.f k).bind fun t147 => (some t147))))) else (if (bt132.2.2 != (bt122.1.toList == bt124.1.toList)) = true then (some false) else (if bt132.2.2 = true then ((rubrickref01_Sum.f k bt132.1).bind fun t148 => ((rubrickref01_Sum.f k bt132.2.1).bind fun t149 => (if t148.toList = t149.toList then ((rubricklaw03_knows.f k).bind fun t150 => (some t150)) else (some false)))) else ((rubricklaw03_knows.f k).bind fun t151 => (some t151))))))))))
end
def rubricklaw03_SealTwo.f (k : Nat) (l0 : List Int) (l1 : List Int) (a2 : ByteArray) (a3 : ByteArray) (a4 : ByteArray) (a5 : ByteArray) : Option (Bool) := (rubricklaw03_great.f l0).bind fun t101 => (if t101 = true then (rubricklaw03_SealTwo.j0 k l0 l1 a2 a3 a4 a5 true) else ((rubricklaw03_great.f l1).bind fun t102 => (if t102 = true then (rubricklaw03_SealTwo.j0 k l0 l1 a2 a3 a4 a5 true) else (if (a2.size : Int) = 32 then (if (a3.size : Int) = 32 then (if (a4.size : Int) = 32 then (rubricklaw03_SealTwo.j0 k l0 l1 a2 a3 a4 a5 ((a5.size : Int) != 32)) else (rubricklaw03_SealTwo.j0 k l0 l1 a2 a3 a4 a5 true)) else (rubricklaw03_SealTwo.j0 k l0 l1 a2 a3 a4 a5 true)) else (rubricklaw03_SealTwo.j0 k l0 l1 a2 a3 a4 a5 true)))))
def rubricklaw03_SealTwo.T9 : Bool × List (List Nat × List Nat) := (true, [([], []), ([], []), ([], []), ([1, 2], [1, 2]), ([3], [3]), ([4], [4]), ([4], [4]), ([5, 6, 4], [4, 5, 6]), ([4, 7], [4, 7]), ([8, 4], [8]), ([9], [9]), ([9], [9]), ([10, 11, 9], [9, 10, 11]), ([9, 12], [9, 12]), ([0, 13], [0, 13]), ([14, 9], [14]), ([15], [15]), ([16, 15, 15], [15, 16]), ([17], [17]), ([18, 17], [17, 18]), ([19, 17, 17], [17, 19]), ([17], [17]), ([21, 17], [17, 21]), ([22, 20, 17], [17, 22]), ([20, 23, 17], [17, 20, 23]), ([17, 24, 15], [15, 17, 24]), ([15, 25], [15, 25])])
def rubricklaw03_SealTwo.B9 : List Nat := [0, 0, 0, 6, 14, 30, 30, 126, 254, 510, 1022, 1022, 4094, 8190, 16383, 32767, 65535, 131071, 262143, 524287, 1048575, 262143, 2359295, 8388607, 16777215, 33554431, 67108863]
theorem rubricklaw03_SealTwo.tab9 : rtab .any (opsOf Tryd.f12 9) = rubricklaw03_SealTwo.T9 := by kernel_rfl
theorem rubricklaw03_SealTwo.bits9 : waitsOk rubricklaw03_SealTwo.T9.2 rubricklaw03_SealTwo.B9 = true := by kernel_rfl
set_option maxHeartbeats 8000000 in
set_option maxRecDepth 100000 in
theorem rubricklaw03_SealTwo.calls (k : Nat) (A0 : Option Addr) (c0 : Nat) (l0 : List Int) (A1 : Option Addr) (c1 : Nat) (l1 : List Int) (a2 : ByteArray) (a3 : ByteArray) (a4 : ByteArray) (a5 : ByteArray) (r : Bool) (w : World) (hG_ : Aside0 (GW w)) (hr0 : Kd.C (Kd.int .u8) w A0 l0.length l0) (hc0 : l0.length ≤ c0) (hr1 : Kd.C (Kd.int .u8) w A1 l1.length l1) (hc1 : l1.length ≤ c1) (h : rubricklaw03_SealTwo.f k l0 l1 a2 a3 a4 a5 = some r) (hT_ : r = true) :
  Calls Tryd.prog 12 #[.slice A0 l0.length c0, .slice A1 l1.length c1, .string a2, .string a3, .string a4, .string a5] w fun e w' => e = .returned (.bool r) ∧ Below w.heap.size w w' := by
 have hu53 := Tryd.underlying53
 have HR0 := Aside0.mk hr0
 have HC0 := Aside0.mk hc0
 clear hr0 hc0
 have HR1 := Aside0.mk hr1
 have HC1 := Aside0.mk hc1
 clear hr1 hc1
 have HB := Aside0.mk (Below.refl w.heap.size w)
 subst hT_
 have H : ((rubricklaw03_great.f l0).bind fun t101 => (if t101 = true then (rubricklaw03_SealTwo.j0 k l0 l1 a2 a3 a4 a5 true) else ((rubricklaw03_great.f l1).bind fun t102 => (if t102 = true then (rubricklaw03_SealTwo.j0 k l0 l1 a2 a3 a4 a5 true) else (if (a2.size : Int) = 32 then (if (a3.size : Int) = 32 then (if (a4.size : Int) = 32 then (rubricklaw03_SealTwo.j0 k l0 l1 a2 a3 a4 a5 ((a5.size : Int) != 32)) else (rubricklaw03_SealTwo.j0 k l0 l1 a2 a3 a4 a5 true)) else (rubricklaw03_SealTwo.j0 k l0 l1 a2 a3 a4 a5 true)) else (rubricklaw03_SealTwo.j0 k l0 l1 a2 a3 a4 a5 true)))))) = some true := h
 clear h
 have HC7 := Aside0.mk H
 clear H
 go_enter Tryd.func12, Tryd.ntmps12
 go_upto_region 1 with (fail)
 go_cut [46] (fun v46 wc => ∃ (kq : Nat) (x46_6 : Bool), v46 = .bool x46_6 ∧ Aside0 (rubricklaw03_SealTwo.j0 kq l0 l1 a2 a3 a4 a5 x46_6 = some true) ∧ Aside0 (kq ≤ k) ∧ Aside0 (Below w.heap.size w wc))
 case first =>
  have H := HC7.out
  clear HC7
  replace H := Option.bind_eq_some_iff.mp H
  obtain ⟨t101, A80, H⟩ := H
  replace H : (if t101 = true then (rubricklaw03_SealTwo.j0 k l0 l1 a2 a3 a4 a5 true) else ((rubricklaw03_great.f l1).bind fun t102 => (if t102 = true then (rubricklaw03_SealTwo.j0 k l0 l1 a2 a3 a4 a5 true) else (if (a2.size : Int) = 32 then (if (a3.size : Int) = 32 then (if (a4.size : Int) = 32 then (rubricklaw03_SealTwo.j0 k l0 l1 a2 a3 a4 a5 ((a5.size : Int) != 32)) else (rubricklaw03_SealTwo.j0 k l0 l1 a2 a3 a4 a5 true)) else (rubricklaw03_SealTwo.j0 k l0 l1 a2 a3 a4 a5 true)) else (rubricklaw03_SealTwo.j0 k l0 l1 a2 a3 a4 a5 true))))) = some true := H
  have A8 := Aside0.mk A80
  clear A80
  by_cases c9 : t101 = true
  ·subst c9
   have H1 : (rubricklaw03_SealTwo.j0 k l0 l1 a2 a3 a4 a5 true) = some true := by rw [if_pos rfl] at H; exact H
   clear H
   have H := H1
   clear H1
   have H' := Aside0.mk H
   clear H
   go_wp2_with (first | ((with_reducible refine gate_callee (f := 13) rfl ?_); refine goesL_ (some 22) rfl rfl Tryd.func13 (by kernel_rfl) rfl #[.slice A0 l0.length c0] rfl (by (try simp only [List.map_toArray, List.map_cons, List.map_nil]) <;> rfl) ?_; (with_reducible refine (rubricklaw03_great.calls _ _ l0 true _ ?side1 ?side2 A8.out).mono ?_); (case side1 => repeat (first | exact (Kd.C_below HR0.out HB.out) | (with_reducible refine Kd.C_alloc ?_ _) | (with_reducible refine Kd.C_drewN ?_ _) | (with_reducible refine Kd.C_drew ?_))); (case side2 => exact HC0.out); rintro e w' ⟨rfl, ⟨nd, rfl⟩⟩; refine ⟨_, rfl, ?_⟩))
   go_meet
   case rel => exact ⟨_, (true), (by first | rfl | (simp; done) | (simp [*]; done)), H', ⟨by first | omega | exact Nat.le_refl _⟩, ⟨by repeat (first | (with_reducible first | exact HB.out | apply below_alloc | apply pw_below_drewN | apply below_drew1) | exact HB.out)⟩⟩
  ·replace c9 := Bool.eq_false_iff.mpr c9
   subst c9
   have H1 : ((rubricklaw03_great.f l1).bind fun t102 => (if t102 = true then (rubricklaw03_SealTwo.j0 k l0 l1 a2 a3 a4 a5 true) else (if (a2.size : Int) = 32 then (if (a3.size : Int) = 32 then (if (a4.size : Int) = 32 then (rubricklaw03_SealTwo.j0 k l0 l1 a2 a3 a4 a5 ((a5.size : Int) != 32)) else (rubricklaw03_SealTwo.j0 k l0 l1 a2 a3 a4 a5 true)) else (rubricklaw03_SealTwo.j0 k l0 l1 a2 a3 a4 a5 true)) else (rubricklaw03_SealTwo.j0 k l0 l1 a2 a3 a4 a5 true)))) = some true := by rw [if_neg (show ¬ (false = true) by decide)] at H; exact H
   clear H
   have H := H1
   clear H1
   replace H := Option.bind_eq_some_iff.mp H
   obtain ⟨t102, A100, H⟩ := H
   replace H : (if t102 = true then (rubricklaw03_SealTwo.j0 k l0 l1 a2 a3 a4 a5 true) else (if (a2.size : Int) = 32 then (if (a3.size : Int) = 32 then (if (a4.size : Int) = 32 then (rubricklaw03_SealTwo.j0 k l0 l1 a2 a3 a4 a5 ((a5.size : Int) != 32)) else (rubricklaw03_SealTwo.j0 k l0 l1 a2 a3 a4 a5 true)) else (rubricklaw03_SealTwo.j0 k l0 l1 a2 a3 a4 a5 true)) else (rubricklaw03_SealTwo.j0 k l0 l1 a2 a3 a4 a5 true))) = some true := H
   have A10 := Aside0.mk A100
   clear A100
   by_cases c11 : t102 = true
   ·subst c11
    have H1 : (rubricklaw03_SealTwo.j0 k l0 l1 a2 a3 a4 a5 true) = some true := by rw [if_pos rfl] at H; exact H
    clear H
    have H := H1
    clear H1
    have H' := Aside0.mk H
    clear H
    go_wp2_with (first | ((with_reducible refine gate_callee (f := 13) rfl ?_); refine goesL_ (some 22) rfl rfl Tryd.func13 (by kernel_rfl) rfl #[.slice A0 l0.length c0] rfl (by (try simp only [List.map_toArray, List.map_cons, List.map_nil]) <;> rfl) ?_; (with_reducible refine (rubricklaw03_great.calls _ _ l0 false _ ?side1 ?side2 A8.out).mono ?_); (case side1 => repeat (first | exact (Kd.C_below HR0.out HB.out) | (with_reducible refine Kd.C_alloc ?_ _) | (with_reducible refine Kd.C_drewN ?_ _) | (with_reducible refine Kd.C_drew ?_))); (case side2 => exact HC0.out); rintro e w' ⟨rfl, ⟨nd, rfl⟩⟩; refine ⟨_, rfl, ?_⟩) | (go_at_call 13; (with_reducible refine (rubricklaw03_great.calls _ _ l1 true _ ?side1 ?side2 A10.out).mono ?_); (case side1 => repeat (first | exact (Kd.C_below HR1.out (by repeat (first | (with_reducible first | exact HB.out | apply below_alloc | apply pw_below_drewN | apply below_drew1) | exact HB.out))) | (with_reducible refine Kd.C_alloc ?_ _) | (with_reducible refine Kd.C_drewN ?_ _) | (with_reducible refine Kd.C_drew ?_))); (case side2 => exact HC1.out); rintro e w' ⟨rfl, ⟨nd, rfl⟩⟩))
    go_meet
    case rel => exact ⟨_, (true), (by first | rfl | (simp; done) | (simp [*]; done)), H', ⟨by first | omega | exact Nat.le_refl _⟩, ⟨by repeat (first | (with_reducible first | exact HB.out | apply below_alloc | apply pw_below_drewN | apply below_drew1) | exact HB.out)⟩⟩
   ·replace c11 := Bool.eq_false_iff.mpr c11
    subst c11
    have H1 : (if (a2.size : Int) = 32 then (if (a3.size : Int) = 32 then (if (a4.size : Int) = 32 then (rubricklaw03_SealTwo.j0 k l0 l1 a2 a3 a4 a5 ((a5.size : Int) != 32)) else (rubricklaw03_SealTwo.j0 k l0 l1 a2 a3 a4 a5 true)) else (rubricklaw03_SealTwo.j0 k l0 l1 a2 a3 a4 a5 true)) else (rubricklaw03_SealTwo.j0 k l0 l1 a2 a3 a4 a5 true)) = some true := by rw [if_neg (show ¬ (false = true) by decide)] at H; exact H
    clear H
    have H := H1
    clear H1
    by_cases c12 : (a2.size : Int) = 32
    ·rw [if_pos c12] at H
     have c12b0 : ((a2.size : Int) == 32) = true := beq_iff_eq.mpr c12
     have c12b1 : ((a2.size : Int) != 32) = false := bne_eq_false_iff_eq.mpr c12
     clear c12
     (first | rw [c12b0] | (simp only [i64_w, i32_w]; rw [c12b0]) | skip)
     by_cases c13 : (a3.size : Int) = 32
     ·rw [if_pos c13] at H
      have c13b0 : ((a3.size : Int) == 32) = true := beq_iff_eq.mpr c13
      have c13b1 : ((a3.size : Int) != 32) = false := bne_eq_false_iff_eq.mpr c13
      clear c13
      by_cases c14 : (a4.size : Int) = 32
      ·rw [if_pos c14] at H
       have c14b0 : ((a4.size : Int) == 32) = true := beq_iff_eq.mpr c14
       have c14b1 : ((a4.size : Int) != 32) = false := bne_eq_false_iff_eq.mpr c14
       clear c14
       have H' := Aside0.mk H
       clear H
       go_wp2_with (first | ((with_reducible refine gate_callee (f := 13) rfl ?_); refine goesL_ (some 22) rfl rfl Tryd.func13 (by kernel_rfl) rfl #[.slice A0 l0.length c0] rfl (by (try simp only [List.map_toArray, List.map_cons, List.map_nil]) <;> rfl) ?_; (with_reducible refine (rubricklaw03_great.calls _ _ l0 false _ ?side1 ?side2 A8.out).mono ?_); (case side1 => repeat (first | exact (Kd.C_below HR0.out HB.out) | (with_reducible refine Kd.C_alloc ?_ _) | (with_reducible refine Kd.C_drewN ?_ _) | (with_reducible refine Kd.C_drew ?_))); (case side2 => exact HC0.out); rintro e w' ⟨rfl, ⟨nd, rfl⟩⟩; refine ⟨_, rfl, ?_⟩) | (go_at_call 13; (with_reducible refine (rubricklaw03_great.calls _ _ l1 false _ ?side1 ?side2 A10.out).mono ?_); (case side1 => repeat (first | exact (Kd.C_below HR1.out (by repeat (first | (with_reducible first | exact HB.out | apply below_alloc | apply pw_below_drewN | apply below_drew1) | exact HB.out))) | (with_reducible refine Kd.C_alloc ?_ _) | (with_reducible refine Kd.C_drewN ?_ _) | (with_reducible refine Kd.C_drew ?_))); (case side2 => exact HC1.out); rintro e w' ⟨rfl, ⟨nd, rfl⟩⟩))
       go_meet
       case rel => exact ⟨_, (((a5.size : Int) != 32)), (by first | rfl | (simp; done) | (simp [*]; done)), H', ⟨by first | omega | exact Nat.le_refl _⟩, ⟨by repeat (first | (with_reducible first | exact HB.out | apply below_alloc | apply pw_below_drewN | apply below_drew1) | exact HB.out)⟩⟩
      ·rw [if_neg c14] at H
       have c14b0 : ((a4.size : Int) == 32) = false := beq_eq_false_iff_ne.mpr c14
       have c14b1 : ((a4.size : Int) != 32) = true := bne_iff_ne.mpr c14
       have H' := Aside0.mk H
       clear H
       go_wp2_with (first | ((with_reducible refine gate_callee (f := 13) rfl ?_); refine goesL_ (some 22) rfl rfl Tryd.func13 (by kernel_rfl) rfl #[.slice A0 l0.length c0] rfl (by (try simp only [List.map_toArray, List.map_cons, List.map_nil]) <;> rfl) ?_; (with_reducible refine (rubricklaw03_great.calls _ _ l0 false _ ?side1 ?side2 A8.out).mono ?_); (case side1 => repeat (first | exact (Kd.C_below HR0.out HB.out) | (with_reducible refine Kd.C_alloc ?_ _) | (with_reducible refine Kd.C_drewN ?_ _) | (with_reducible refine Kd.C_drew ?_))); (case side2 => exact HC0.out); rintro e w' ⟨rfl, ⟨nd, rfl⟩⟩; refine ⟨_, rfl, ?_⟩) | (go_at_call 13; (with_reducible refine (rubricklaw03_great.calls _ _ l1 false _ ?side1 ?side2 A10.out).mono ?_); (case side1 => repeat (first | exact (Kd.C_below HR1.out (by repeat (first | (with_reducible first | exact HB.out | apply below_alloc | apply pw_below_drewN | apply below_drew1) | exact HB.out))) | (with_reducible refine Kd.C_alloc ?_ _) | (with_reducible refine Kd.C_drewN ?_ _) | (with_reducible refine Kd.C_drew ?_))); (case side2 => exact HC1.out); rintro e w' ⟨rfl, ⟨nd, rfl⟩⟩))
       go_meet
       case rel => exact ⟨_, (true), (by first | rfl | (simp; done) | (simp [*]; done)), H', ⟨by first | omega | exact Nat.le_refl _⟩, ⟨by repeat (first | (with_reducible first | exact HB.out | apply below_alloc | apply pw_below_drewN | apply below_drew1) | exact HB.out)⟩⟩
     ·rw [if_neg c13] at H
      have c13b0 : ((a3.size : Int) == 32) = false := beq_eq_false_iff_ne.mpr c13
      have c13b1 : ((a3.size : Int) != 32) = true := bne_iff_ne.mpr c13
      have H' := Aside0.mk H
      clear H
      go_wp2_with (first | ((with_reducible refine gate_callee (f := 13) rfl ?_); refine goesL_ (some 22) rfl rfl Tryd.func13 (by kernel_rfl) rfl #[.slice A0 l0.length c0] rfl (by (try simp only [List.map_toArray, List.map_cons, List.map_nil]) <;> rfl) ?_; (with_reducible refine (rubricklaw03_great.calls _ _ l0 false _ ?side1 ?side2 A8.out).mono ?_); (case side1 => repeat (first | exact (Kd.C_below HR0.out HB.out) | (with_reducible refine Kd.C_alloc ?_ _) | (with_reducible refine Kd.C_drewN ?_ _) | (with_reducible refine Kd.C_drew ?_))); (case side2 => exact HC0.out); rintro e w' ⟨rfl, ⟨nd, rfl⟩⟩; refine ⟨_, rfl, ?_⟩) | (go_at_call 13; (with_reducible refine (rubricklaw03_great.calls _ _ l1 false _ ?side1 ?side2 A10.out).mono ?_); (case side1 => repeat (first | exact (Kd.C_below HR1.out (by repeat (first | (with_reducible first | exact HB.out | apply below_alloc | apply pw_below_drewN | apply below_drew1) | exact HB.out))) | (with_reducible refine Kd.C_alloc ?_ _) | (with_reducible refine Kd.C_drewN ?_ _) | (with_reducible refine Kd.C_drew ?_))); (case side2 => exact HC1.out); rintro e w' ⟨rfl, ⟨nd, rfl⟩⟩))
      go_meet
      case rel => exact ⟨_, (true), (by first | rfl | (simp; done) | (simp [*]; done)), H', ⟨by first | omega | exact Nat.le_refl _⟩, ⟨by repeat (first | (with_reducible first | exact HB.out | apply below_alloc | apply pw_below_drewN | apply below_drew1) | exact HB.out)⟩⟩
    ·rw [if_neg c12] at H
     have c12b0 : ((a2.size : Int) == 32) = false := beq_eq_false_iff_ne.mpr c12
     have c12b1 : ((a2.size : Int) != 32) = true := bne_iff_ne.mpr c12
     (first | rw [c12b0] | (simp only [i64_w, i32_w]; rw [c12b0]) | skip)
     have H' := Aside0.mk H
     clear H
     go_wp2_with (first | ((with_reducible refine gate_callee (f := 13) rfl ?_); refine goesL_ (some 22) rfl rfl Tryd.func13 (by kernel_rfl) rfl #[.slice A0 l0.length c0] rfl (by (try simp only [List.map_toArray, List.map_cons, List.map_nil]) <;> rfl) ?_; (with_reducible refine (rubricklaw03_great.calls _ _ l0 false _ ?side1 ?side2 A8.out).mono ?_); (case side1 => repeat (first | exact (Kd.C_below HR0.out HB.out) | (with_reducible refine Kd.C_alloc ?_ _) | (with_reducible refine Kd.C_drewN ?_ _) | (with_reducible refine Kd.C_drew ?_))); (case side2 => exact HC0.out); rintro e w' ⟨rfl, ⟨nd, rfl⟩⟩; refine ⟨_, rfl, ?_⟩) | (go_at_call 13; (with_reducible refine (rubricklaw03_great.calls _ _ l1 false _ ?side1 ?side2 A10.out).mono ?_); (case side1 => repeat (first | exact (Kd.C_below HR1.out (by repeat (first | (with_reducible first | exact HB.out | apply below_alloc | apply pw_below_drewN | apply below_drew1) | exact HB.out))) | (with_reducible refine Kd.C_alloc ?_ _) | (with_reducible refine Kd.C_drewN ?_ _) | (with_reducible refine Kd.C_drew ?_))); (case side2 => exact HC1.out); rintro e w' ⟨rfl, ⟨nd, rfl⟩⟩))
     go_meet
     case rel => exact ⟨_, (true), (by first | rfl | (simp; done) | (simp [*]; done)), H', ⟨by first | omega | exact Nat.le_refl _⟩, ⟨by repeat (first | (with_reducible first | exact HB.out | apply below_alloc | apply pw_below_drewN | apply below_drew1) | exact HB.out)⟩⟩
 case rest =>
  clear HC7
  try clear c1
  try clear p2
  try clear c9
  try clear c11
  try clear c12
  try clear c12b0
  try clear c12b1
  try clear c13
  try clear c13b0
  try clear c13b1
  try clear c14
  try clear c14b0
  try clear c14b1
  obtain ⟨kq, x46_6, rfl, HA, HJ6, HB⟩ := hcut
  cases kq with
  | zero => exact absurd HA.out (by simp [rubricklaw03_SealTwo.j0])
  | succ kj6 =>
   have H := HA.out
   clear HA
   simp only [rubricklaw03_SealTwo.j0] at H
   by_cases c15 : x46_6 = true
   ·subst c15
    have H1 : ((rubricklaw03_knows.f kj6).bind fun t103 => (some t103)) = some true := by rw [if_pos rfl] at H; exact H
    clear H
    have H := H1
    clear H1
    replace H := Option.bind_eq_some_iff.mp H
    obtain ⟨t103, A160, H⟩ := H
    replace H : (some t103) = some true := H
    have A16 := Aside0.mk A160
    clear A160
    have HT2_ := Aside0.mk (Option.some.inj H)
    clear H
    go_wp2_with (first | ((with_reducible refine gate_callee (f := 14) rfl ?_); refine goesL_ (some 47) rfl rfl Tryd.func14 (by kernel_rfl) rfl #[] rfl (by (try simp only [List.map_toArray, List.map_cons, List.map_nil]) <;> rfl) ?_; (with_reducible refine (rubricklaw03_knows.calls kj6  t103 _ ?side1 A16.out).mono ?_); (case side1 => exact gw_step hG_ (by repeat (first | (with_reducible first | exact HB.out | apply below_alloc | apply pw_below_drewN | apply below_drew1) | exact HB.out))); rintro e w17 ⟨rfl, hb⟩; refine ⟨_, rfl, ?_⟩; have n0_ := Aside0.mk (HCmp.bS HB.out hb); clear HB; have HB := n0_; clear n0_; (try clear hb)))
    go_ret
    exact ⟨by first | rfl | (simp [errW_none, errW_some] <;> rfl) | exact congrArg (fun b_ : Bool => Ending.returned (Value.bool b_)) HT2_.out | (simp [*, errW_none, errW_some] <;> rfl), by repeat (first | (with_reducible first | exact HB.out | apply below_alloc | apply pw_below_drewN | apply below_drew1) | exact HB.out)⟩
   ·replace c15 := Bool.eq_false_iff.mpr c15
    subst c15
    have H1 : ((seal_LeafBytes.f kj6 l0).bind fun t104 => ((seal_LeafBytes.f kj6 l1).bind fun t107 => ((seal_Between.f t104 t107).bind fun bt110 => (if (strOfNums l0).toList = (strOfNums l1).toList then (if (bt110.2.2 != false) = true then (rubricklaw03_SealTwo.j1 kj6 a2 a3 a4 a5 true) else (if bt110.2.2 = true then ((seal_Is.f bt110.1 bt110.2.1).bind fun t118 => (rubricklaw03_SealTwo.j1 kj6 a2 a3 a4 a5 (!t118))) else (rubricklaw03_SealTwo.j1 kj6 a2 a3 a4 a5 false))) else ((seal_Leaf.f kj6 l0).bind fun t119 => ((seal_Leaf.f kj6 l1).bind fun t120 => (if (bt110.2.2 != (t119.toList == t120.toList)) = true then (rubricklaw03_SealTwo.j1 kj6 a2 a3 a4 a5 true) else (if bt110.2.2 = true then ((seal_Is.f bt110.1 bt110.2.1).bind fun t121 => (rubricklaw03_SealTwo.j1 kj6 a2 a3 a4 a5 (!t121))) else (rubricklaw03_SealTwo.j1 kj6 a2 a3 a4 a5 false))))))))) = some true := by rw [if_neg (show ¬ (false = true) by decide)] at H; exact H
    clear H
    have H := H1
    clear H1
    replace H := Option.bind_eq_some_iff.mp H
    obtain ⟨t104, A180, H⟩ := H
    replace H : ((seal_LeafBytes.f kj6 l1).bind fun t107 => ((seal_Between.f t104 t107).bind fun bt110 => (if (strOfNums l0).toList = (strOfNums l1).toList then (if (bt110.2.2 != false) = true then (rubricklaw03_SealTwo.j1 kj6 a2 a3 a4 a5 true) else (if bt110.2.2 = true then ((seal_Is.f bt110.1 bt110.2.1).bind fun t118 => (rubricklaw03_SealTwo.j1 kj6 a2 a3 a4 a5 (!t118))) else (rubricklaw03_SealTwo.j1 kj6 a2 a3 a4 a5 false))) else ((seal_Leaf.f kj6 l0).bind fun t119 => ((seal_Leaf.f kj6 l1).bind fun t120 => (if (bt110.2.2 != (t119.toList == t120.toList)) = true then (rubricklaw03_SealTwo.j1 kj6 a2 a3 a4 a5 true) else (if bt110.2.2 = true then ((seal_Is.f bt110.1 bt110.2.1).bind fun t121 => (rubricklaw03_SealTwo.j1 kj6 a2 a3 a4 a5 (!t121))) else (rubricklaw03_SealTwo.j1 kj6 a2 a3 a4 a5 false)))))))) = some true := H
    have A18 := Aside0.mk A180
    clear A180
    replace H := Option.bind_eq_some_iff.mp H
    obtain ⟨t107, A190, H⟩ := H
    replace H : ((seal_Between.f t104 t107).bind fun bt110 => (if (strOfNums l0).toList = (strOfNums l1).toList then (if (bt110.2.2 != false) = true then (rubricklaw03_SealTwo.j1 kj6 a2 a3 a4 a5 true) else (if bt110.2.2 = true then ((seal_Is.f bt110.1 bt110.2.1).bind fun t118 => (rubricklaw03_SealTwo.j1 kj6 a2 a3 a4 a5 (!t118))) else (rubricklaw03_SealTwo.j1 kj6 a2 a3 a4 a5 false))) else ((seal_Leaf.f kj6 l0).bind fun t119 => ((seal_Leaf.f kj6 l1).bind fun t120 => (if (bt110.2.2 != (t119.toList == t120.toList)) = true then (rubricklaw03_SealTwo.j1 kj6 a2 a3 a4 a5 true) else (if bt110.2.2 = true then ((seal_Is.f bt110.1 bt110.2.1).bind fun t121 => (rubricklaw03_SealTwo.j1 kj6 a2 a3 a4 a5 (!t121))) else (rubricklaw03_SealTwo.j1 kj6 a2 a3 a4 a5 false))))))) = some true := H
    have A19 := Aside0.mk A190
    clear A190
    replace H := Option.bind_eq_some_iff.mp H
    obtain ⟨⟨t110, t113, t116⟩, A200, H⟩ := H
    replace H : (if (strOfNums l0).toList = (strOfNums l1).toList then (if (t116 != false) = true then (rubricklaw03_SealTwo.j1 kj6 a2 a3 a4 a5 true) else (if t116 = true then ((seal_Is.f t110 t113).bind fun t118 => (rubricklaw03_SealTwo.j1 kj6 a2 a3 a4 a5 (!t118))) else (rubricklaw03_SealTwo.j1 kj6 a2 a3 a4 a5 false))) else ((seal_Leaf.f kj6 l0).bind fun t119 => ((seal_Leaf.f kj6 l1).bind fun t120 => (if (t116 != (t119.toList == t120.toList)) = true then (rubricklaw03_SealTwo.j1 kj6 a2 a3 a4 a5 true) else (if t116 = true then ((seal_Is.f t110 t113).bind fun t121 => (rubricklaw03_SealTwo.j1 kj6 a2 a3 a4 a5 (!t121))) else (rubricklaw03_SealTwo.j1 kj6 a2 a3 a4 a5 false)))))) = some true := H
    have A20 := Aside0.mk A200
    clear A200
    have HC21 := Aside0.mk H
    clear H
    go_upto_region 4 with (first | ((with_reducible refine gate_callee (f := 15) rfl ?_); refine goesL_ (some 50) rfl rfl Tryd.func15 (by kernel_rfl) rfl #[.slice A0 l0.length c0] rfl (by (try simp only [List.map_toArray, List.map_cons, List.map_nil]) <;> rfl) ?_; (with_reducible refine (seal_LeafBytes.calls kj6 _ _ l0 t104 _ ?side1 ?side2 A18.out).mono ?_); (case side1 => repeat (first | exact (Kd.C_below HR0.out HB.out) | (with_reducible refine Kd.C_alloc ?_ _) | (with_reducible refine Kd.C_drewN ?_ _) | (with_reducible refine Kd.C_drew ?_))); (case side2 => exact HC0.out); rintro e w22 ⟨v105, rfl, ho0, hb⟩; refine ⟨_, rfl, ?_⟩; have n0_ := Aside0.mk (Kd.R_lower ho0 (below_size (by repeat (first | (with_reducible first | exact HB.out | apply below_alloc | apply pw_below_drewN | apply below_drew1) | exact HB.out)))); have n1_ := Aside0.mk (HCmp.bS HB.out hb); clear HB; have HO106 := n0_; have HB := n1_; clear n0_ n1_; (try clear hb); (try clear ho0)) | ((with_reducible refine gate_callee (f := 15) rfl ?_); refine goesL_ (some 52) rfl rfl Tryd.func15 (by kernel_rfl) rfl #[.slice A1 l1.length c1] rfl (by (try simp only [List.map_toArray, List.map_cons, List.map_nil]) <;> rfl) ?_; (with_reducible refine (seal_LeafBytes.calls kj6 _ _ l1 t107 _ ?side1 ?side2 A19.out).mono ?_); (case side1 => repeat (first | exact (Kd.C_below HR1.out HB.out) | (with_reducible refine Kd.C_alloc ?_ _) | (with_reducible refine Kd.C_drewN ?_ _) | (with_reducible refine Kd.C_drew ?_))); (case side2 => exact HC1.out); rintro e w23 ⟨v108, rfl, ho0, hb⟩; refine ⟨_, rfl, ?_⟩; have n0_ := Aside0.mk (Kd.R_elder' (by (with_reducible repeat (first | apply Kd.R_alloc | apply Kd.R_drewN | apply Kd.R_drew)); exact HO106.out) (Kd.R_base ho0) hb); have n1_ := Aside0.mk (Kd.R_lower (Kd.R_new' ho0 (Kd.R_lt (by (with_reducible repeat (first | apply Kd.R_alloc | apply Kd.R_drewN | apply Kd.R_drew)); exact HO106.out))) (below_size (by repeat (first | (with_reducible first | exact HB.out | apply below_alloc | apply pw_below_drewN | apply below_drew1) | exact HB.out)))); have n2_ := Aside0.mk (HCmp.bS HB.out hb); clear HO106; clear HB; have HO106 := n0_; have HO109 := n1_; have HB := n2_; clear n0_ n1_ n2_; (try clear hb); (try clear ho0); obtain ⟨Ao24, co24, eo24⟩ := Kd.R_slice HO106.out; subst eo24; obtain ⟨Ao25, co25, eo25⟩ := Kd.R_slice HO109.out; subst eo25) | ((with_reducible refine gate_callee (f := 36) rfl ?_); refine goesL_ (some 53) rfl rfl Tryd.func36 (by kernel_rfl) rfl #[.slice Ao24 t104.length co24, .slice Ao25 t107.length co25] rfl (by (try simp only [List.map_toArray, List.map_cons, List.map_nil]) <;> rfl) ?_; (with_reducible refine (seal_Between.calls _ _ t104 _ _ t107 t110 t113 t116 _ ?side5 ?side1 ?side2 ?side3 ?side4 A20.out).mono ?_); (case side1 => repeat (first | exact (Kd.R_reads' HO106.out).2.2 | (with_reducible refine Kd.C_alloc ?_ _) | (with_reducible refine Kd.C_drewN ?_ _) | (with_reducible refine Kd.C_drew ?_))); (case side2 => exact (Kd.R_reads' HO106.out).2.1); (case side3 => repeat (first | exact (Kd.R_reads' HO109.out).2.2 | (with_reducible refine Kd.C_alloc ?_ _) | (with_reducible refine Kd.C_drewN ?_ _) | (with_reducible refine Kd.C_drew ?_))); (case side4 => exact (Kd.R_reads' HO109.out).2.1); (case side5 => exact gw_step hG_ (by repeat (first | (with_reducible first | exact HB.out | apply below_alloc | apply pw_below_drewN | apply below_drew1) | exact HB.out))); rintro e w26 ⟨v111, v114, rfl, ho0, ho1, hb⟩; refine ⟨_, rfl, ?_⟩; have n0_ := Aside0.mk (Kd.R_mono (Kd.R_told (Kd.R_told (Kd.R_old (by (with_reducible repeat (first | apply Kd.R_alloc | apply Kd.R_drewN | apply Kd.R_drew)); exact HO106.out) hb) (Kd.R_base ho0)) (Kd.R_base ho1)) (fun _ h_ => h_.1)); have n1_ := Aside0.mk (Kd.R_mono (Kd.R_told (Kd.R_told (Kd.R_old (by (with_reducible repeat (first | apply Kd.R_alloc | apply Kd.R_drewN | apply Kd.R_drew)); exact HO109.out) hb) (Kd.R_base ho0)) (Kd.R_base ho1)) (fun _ h_ => h_.1)); have n2_ := Aside0.mk (Kd.R_lower (Kd.R_new' (Kd.R_new' ho0 (Kd.R_lt (by (with_reducible repeat (first | apply Kd.R_alloc | apply Kd.R_drewN | apply Kd.R_drew)); exact HO106.out))) (Kd.R_lt (by (with_reducible repeat (first | apply Kd.R_alloc | apply Kd.R_drewN | apply Kd.R_drew)); exact HO109.out))) (below_size (by repeat (first | (with_reducible first | exact HB.out | apply below_alloc | apply pw_below_drewN | apply below_drew1) | exact HB.out)))); have n3_ := Aside0.mk (Kd.R_lower (Kd.R_new' (Kd.R_new' ho1 (Kd.R_lt (by (with_reducible repeat (first | apply Kd.R_alloc | apply Kd.R_drewN | apply Kd.R_drew)); exact HO106.out))) (Kd.R_lt (by (with_reducible repeat (first | apply Kd.R_alloc | apply Kd.R_drewN | apply Kd.R_drew)); exact HO109.out))) (below_size (by repeat (first | (with_reducible first | exact HB.out | apply below_alloc | apply pw_below_drewN | apply below_drew1) | exact HB.out)))); have n4_ := Aside0.mk (HCmp.bS HB.out hb); clear HO106; clear HO109; clear HB; have HO106 := n0_; have HO109 := n1_; have HO112 := n2_; have HO115 := n3_; have HB := n4_; clear n0_ n1_ n2_ n3_ n4_; (try clear hb); (try clear ho0); (try clear ho1)) | ((with_reducible refine gate_dst (N := 13) rfl ?_); (try (refine gate_guard (by rfl) ?_; dsimp only)); refine box_event ?hg (N := 13) ?hd (cs := #[.slice none 0 0, .slice none 0 0]) (t := 53) ?hr ?_; (case hd => rfl); (case hg => rfl); (case hr => first | (go_simp; done) | (go_simp; rfl)); intro gb117 hg w27 hbox hb; have n0_ := Aside0.mk (HCmp.rB HO106.out hb); have n1_ := Aside0.mk (HCmp.rB HO109.out hb); have n2_ := Aside0.mk (HCmp.rB HO112.out hb); have n3_ := Aside0.mk (HCmp.rB HO115.out hb); have n4_ := Aside0.mk (HCmp.bS HB.out hb); have n5_ := Aside0.mk (hbox); have n6_ := Aside0.mk ((by rw [hg]; exact (below_size (by repeat (first | (with_reducible first | exact HB.out | apply below_alloc | apply pw_below_drewN | apply below_drew1) | exact HB.out))) : w.heap.size ≤ gb117)); have n7_ := Aside0.mk ((by rw [hg]; exact (below_size (by repeat (first | (with_reducible first | exact HB.out | apply below_alloc | apply pw_below_drewN | apply below_drew1) | exact HB.out))) : w.heap.size ≤ gb117)); clear HO106; clear HO109; clear HO112; clear HO115; clear HB; have HO106 := n0_; have HO109 := n1_; have HO112 := n2_; have HO115 := n3_; have HB := n4_; have BK117 := n5_; have GW117 := n6_; have GE117 := n7_; clear n0_ n1_ n2_ n3_ n4_ n5_ n6_ n7_; clear hb hbox hg; obtain ⟨Ao28, co28, eo28⟩ := Kd.R_slice HO112.out; subst eo28; have hcz29_0 : w27.cell? ⟨gb117, 0, none⟩ = some (.slice none 0 0) := (blk_cell BK117.out 0).trans rfl; have hcz29_1 : w27.cell? ⟨gb117, 1, none⟩ = some (.slice none 0 0) := (blk_cell BK117.out 1).trans rfl; have hfz29_0 := blk_frozen BK117.out 0; have hfz29_1 := blk_frozen BK117.out 1; obtain ⟨Ao30, co30, eo30⟩ := Kd.R_slice HO115.out; subst eo30))
    (try simp only [Act.put, List.setIfInBounds_toArray, List.set_cons_zero, List.set_cons_succ])
    go_cut [77] (fun v77 wc => ∃ (kq : Nat) (x77_20 : Bool), v77 = .bool x77_20 ∧ Aside0 (rubricklaw03_SealTwo.j1 kq a2 a3 a4 a5 x77_20 = some true) ∧ Aside0 (kq ≤ kj6) ∧ Aside0 (Kd.R (Kd.int .u8) 5 wc w.heap.size (fun k_ => some k_ ≠ ((.slice Ao30 t113.length co30) : Value).ownBlock) (.slice Ao28 t110.length co28) t110) ∧ Aside0 (Kd.R (Kd.int .u8) 5 wc w.heap.size (fun k_ => some k_ ≠ ((.slice Ao28 t110.length co28) : Value).ownBlock) (.slice Ao30 t113.length co30) t113) ∧ Aside0 (wc.heap[gb117]? = some (.cells #[(.slice Ao28 t110.length co28), (.slice Ao30 t113.length co30)] 53 (0, 0))) ∧ Aside0 (Below w.heap.size w wc))
    case first =>
     have H := HC21.out
     clear HC21
     by_cases c31 : (strOfNums l0).toList = (strOfNums l1).toList
     ·rw [if_pos c31] at H
      have c31b0 : ((strOfNums l0).toList == (strOfNums l1).toList) = true := beq_iff_eq.mpr c31
      have c31b1 : ((strOfNums l0).toList != (strOfNums l1).toList) = false := bne_eq_false_iff_eq.mpr c31
      clear c31
      (first | rw [c31b0] | (simp only [i64_w, i32_w]; rw [c31b0]) | skip)
      by_cases c32 : (t116 != false) = true
      ·rw [if_pos c32] at H
       have c32b0 : (t116 != false) = true := c32
       (try (have c32b1 : decide (t116 = false) = false := by simpa using c32))
       (try (have c32b2 : (t116 == false) = false := by simpa using c32))
       (try (have c32b3 : ¬ (t116 = false) := by simpa using c32))
       clear c32
       have H' := Aside0.mk H
       clear H
       have hcv33 := Kd.C_string (P := Tryd.prog) (A := A0) (c := c0) Tryd.underlying22 Tryd.underlying5 Tryd.underlying9 (Kd.C_below HR0.out HB.out)
       have hcw33 := fun n_ : Nat => Kd.C_string (P := Tryd.prog) (A := A0) (c := c0) Tryd.underlying22 Tryd.underlying5 Tryd.underlying9 (Kd.C_drewN (Kd.C_below HR0.out HB.out) n_)
       have hcx33 := fun (j_ i_ : Nat) (v_ u_ : Value) => Kd.C_string (P := Tryd.prog) (A := A0) (c := c0) Tryd.underlying22 Tryd.underlying5 Tryd.underlying9 (Kd.C_below HR0.out (below_set (j := j_) (v := v_) (below_set (j := i_) (v := u_) HB.out GE117.out) GE117.out))
       have hcv34 := Kd.C_string (P := Tryd.prog) (A := A1) (c := c1) Tryd.underlying22 Tryd.underlying5 Tryd.underlying9 (Kd.C_below HR1.out HB.out)
       have hcw34 := fun n_ : Nat => Kd.C_string (P := Tryd.prog) (A := A1) (c := c1) Tryd.underlying22 Tryd.underlying5 Tryd.underlying9 (Kd.C_drewN (Kd.C_below HR1.out HB.out) n_)
       have hcx34 := fun (j_ i_ : Nat) (v_ u_ : Value) => Kd.C_string (P := Tryd.prog) (A := A1) (c := c1) Tryd.underlying22 Tryd.underlying5 Tryd.underlying9 (Kd.C_below HR1.out (below_set (j := j_) (v := v_) (below_set (j := i_) (v := u_) HB.out GE117.out) GE117.out))
       go_wp2
       go_meet
       case rel => exact ⟨_, (true), (by first | rfl | (simp; done) | (simp [*]; done)), H', ⟨by have := HJ6.out; first | omega | exact Nat.le_refl _⟩, ⟨by (with_reducible repeat (first | apply Kd.R_alloc | apply Kd.R_drewN | apply Kd.R_drew)); exact Kd.R_mono (Kd.R_far (p := ⟨gb117, 1, none⟩) (Kd.R_far (p := ⟨gb117, 0, none⟩) (Kd.R_types HO112.out BK117.out (by decide)) (fun _ hk => hk.2) (.slice Ao28 t110.length co28)) (fun _ hk => hk.2) (.slice Ao30 t113.length co30)) (fun _ hk => hk.1.1.1)⟩, ⟨by (with_reducible repeat (first | apply Kd.R_alloc | apply Kd.R_drewN | apply Kd.R_drew)); exact Kd.R_mono (Kd.R_far (p := ⟨gb117, 1, none⟩) (Kd.R_far (p := ⟨gb117, 0, none⟩) (Kd.R_types HO115.out BK117.out (by decide)) (fun _ hk => hk.2) (.slice Ao28 t110.length co28)) (fun _ hk => hk.2) (.slice Ao30 t113.length co30)) (fun _ hk => hk.1.1.1)⟩, ⟨by (with_reducible repeat (first | refine blk_drewN ?_ _ | refine blk_drew ?_ | refine blk_alloc ?_ _)); refine blk_put (cs := #[.slice Ao28 t110.length co28, .slice none 0 0]) ?_ 1 _ rfl; (with_reducible repeat (first | refine blk_drewN ?_ _ | refine blk_drew ?_ | refine blk_alloc ?_ _)); refine blk_put (cs := #[.slice none 0 0, .slice none 0 0]) ?_ 0 _ rfl; (with_reducible repeat (first | refine blk_drewN ?_ _ | refine blk_drew ?_ | refine blk_alloc ?_ _)); exact BK117.out⟩, ⟨by repeat (first | (with_reducible first | exact HB.out | apply below_alloc | apply pw_below_drewN | apply below_drew1 | refine below_set ?_ GE117.out) | exact HB.out)⟩⟩
      ·rw [if_neg c32] at H
       have c32b0 : (t116 != false) = false := by simpa using c32
       (try (have c32b1 : decide (t116 = false) = true := by simpa using c32))
       (try (have c32b2 : (t116 == false) = true := by simpa using c32))
       clear c32
       by_cases c35 : t116 = true
       ·subst c35
        have H1 : ((seal_Is.f t110 t113).bind fun t118 => (rubricklaw03_SealTwo.j1 kj6 a2 a3 a4 a5 (!t118))) = some true := by rw [if_pos rfl] at H; exact H
        clear H
        have H := H1
        clear H1
        replace H := Option.bind_eq_some_iff.mp H
        obtain ⟨t118, A360, H⟩ := H
        replace H : (rubricklaw03_SealTwo.j1 kj6 a2 a3 a4 a5 (!t118)) = some true := H
        have A36 := Aside0.mk A360
        clear A360
        have H' := Aside0.mk H
        clear H
        have hcv37 := Kd.C_string (P := Tryd.prog) (A := A0) (c := c0) Tryd.underlying22 Tryd.underlying5 Tryd.underlying9 (Kd.C_below HR0.out HB.out)
        have hcw37 := fun n_ : Nat => Kd.C_string (P := Tryd.prog) (A := A0) (c := c0) Tryd.underlying22 Tryd.underlying5 Tryd.underlying9 (Kd.C_drewN (Kd.C_below HR0.out HB.out) n_)
        have hcx37 := fun (j_ i_ : Nat) (v_ u_ : Value) => Kd.C_string (P := Tryd.prog) (A := A0) (c := c0) Tryd.underlying22 Tryd.underlying5 Tryd.underlying9 (Kd.C_below HR0.out (below_set (j := j_) (v := v_) (below_set (j := i_) (v := u_) HB.out GE117.out) GE117.out))
        have hcv38 := Kd.C_string (P := Tryd.prog) (A := A1) (c := c1) Tryd.underlying22 Tryd.underlying5 Tryd.underlying9 (Kd.C_below HR1.out HB.out)
        have hcw38 := fun n_ : Nat => Kd.C_string (P := Tryd.prog) (A := A1) (c := c1) Tryd.underlying22 Tryd.underlying5 Tryd.underlying9 (Kd.C_drewN (Kd.C_below HR1.out HB.out) n_)
        have hcx38 := fun (j_ i_ : Nat) (v_ u_ : Value) => Kd.C_string (P := Tryd.prog) (A := A1) (c := c1) Tryd.underlying22 Tryd.underlying5 Tryd.underlying9 (Kd.C_below HR1.out (below_set (j := j_) (v := v_) (below_set (j := i_) (v := u_) HB.out GE117.out) GE117.out))
        have hcz39_0 : w27.cell? ⟨gb117, 0, none⟩ = some (.slice none 0 0) := (blk_cell BK117.out 0).trans rfl
        have hcz39_1 : w27.cell? ⟨gb117, 1, none⟩ = some (.slice none 0 0) := (blk_cell BK117.out 1).trans rfl
        have hfz39_0 := blk_frozen BK117.out 0
        have hfz39_1 := blk_frozen BK117.out 1
        go_wp2_with (first | (go_at_call 38; (with_reducible refine (seal_Is.calls _ _ t110 _ _ t113 t118 _ ?side5 ?side1 ?side2 ?side3 ?side4 A36.out).mono ?_); (case side1 => refine (Kd.R_reads' (e := 5) (base := w.heap.size) (ok := fun k_ => ((some k_ ≠ (.slice Ao30 t113.length co30 : Value).ownBlock ∧ some k_ ≠ (.slice Ao24 t104.length co24 : Value).ownBlock) ∧ some k_ ≠ (.slice Ao25 t107.length co25 : Value).ownBlock)) (n := t110.length) (c := co28) ?_).2.2; exact (by (with_reducible repeat (first | apply Kd.R_alloc | apply Kd.R_drewN | apply Kd.R_drew)); exact (Kd.R_mono (Kd.R_far (p := ⟨gb117, 1, none⟩) (Kd.R_far (p := ⟨gb117, 0, none⟩) (Kd.R_types HO112.out BK117.out (by decide)) (fun _ hk => hk.2) (.slice Ao28 t110.length co28)) (fun _ hk => hk.2) (.slice Ao30 t113.length co30)) (fun _ h_ => h_.1)))); (case side2 => exact (Kd.R_reads' HO112.out).2.1); (case side3 => refine (Kd.R_reads' (e := 5) (base := w.heap.size) (ok := fun k_ => ((some k_ ≠ (.slice Ao28 t110.length co28 : Value).ownBlock ∧ some k_ ≠ (.slice Ao24 t104.length co24 : Value).ownBlock) ∧ some k_ ≠ (.slice Ao25 t107.length co25 : Value).ownBlock)) (n := t113.length) (c := co30) ?_).2.2; exact (by (with_reducible repeat (first | apply Kd.R_alloc | apply Kd.R_drewN | apply Kd.R_drew)); exact (Kd.R_mono (Kd.R_far (p := ⟨gb117, 1, none⟩) (Kd.R_far (p := ⟨gb117, 0, none⟩) (Kd.R_types HO115.out BK117.out (by decide)) (fun _ hk => hk.2) (.slice Ao28 t110.length co28)) (fun _ hk => hk.2) (.slice Ao30 t113.length co30)) (fun _ h_ => h_.1)))); (case side4 => exact (Kd.R_reads' HO115.out).2.1); (case side5 => exact gw_step hG_ (by repeat (first | (with_reducible first | exact HB.out | apply below_alloc | apply pw_below_drewN | apply below_drew1 | refine below_set ?_ GE117.out) | exact HB.out))); rintro e w40 ⟨rfl, hb⟩; have n0_ := Aside0.mk (Kd.R_below (by (with_reducible repeat (first | apply Kd.R_alloc | apply Kd.R_drewN | apply Kd.R_drew)); exact (Kd.R_mono (Kd.R_far (p := ⟨gb117, 1, none⟩) (Kd.R_far (p := ⟨gb117, 0, none⟩) (Kd.R_types HO106.out BK117.out (by decide)) (fun _ hk => hk.2) (.slice Ao28 t110.length co28)) (fun _ hk => hk.2) (.slice Ao30 t113.length co30)) (fun _ h_ => h_.1))) hb); have n1_ := Aside0.mk (Kd.R_below (by (with_reducible repeat (first | apply Kd.R_alloc | apply Kd.R_drewN | apply Kd.R_drew)); exact (Kd.R_mono (Kd.R_far (p := ⟨gb117, 1, none⟩) (Kd.R_far (p := ⟨gb117, 0, none⟩) (Kd.R_types HO109.out BK117.out (by decide)) (fun _ hk => hk.2) (.slice Ao28 t110.length co28)) (fun _ hk => hk.2) (.slice Ao30 t113.length co30)) (fun _ h_ => h_.1))) hb); have n2_ := Aside0.mk (Kd.R_below (by (with_reducible repeat (first | apply Kd.R_alloc | apply Kd.R_drewN | apply Kd.R_drew)); exact (Kd.R_mono (Kd.R_far (p := ⟨gb117, 1, none⟩) (Kd.R_far (p := ⟨gb117, 0, none⟩) (Kd.R_types HO112.out BK117.out (by decide)) (fun _ hk => hk.2) (.slice Ao28 t110.length co28)) (fun _ hk => hk.2) (.slice Ao30 t113.length co30)) (fun _ h_ => h_.1))) hb); have n3_ := Aside0.mk (Kd.R_below (by (with_reducible repeat (first | apply Kd.R_alloc | apply Kd.R_drewN | apply Kd.R_drew)); exact (Kd.R_mono (Kd.R_far (p := ⟨gb117, 1, none⟩) (Kd.R_far (p := ⟨gb117, 0, none⟩) (Kd.R_types HO115.out BK117.out (by decide)) (fun _ hk => hk.2) (.slice Ao28 t110.length co28)) (fun _ hk => hk.2) (.slice Ao30 t113.length co30)) (fun _ h_ => h_.1))) hb); have n4_ := Aside0.mk (blk_below (g := gb117) (o := .cells #[.slice Ao28 t110.length co28, .slice Ao30 t113.length co30] 53 (0, 0)) (by (with_reducible repeat (first | refine blk_drewN ?_ _ | refine blk_drew ?_ | refine blk_alloc ?_ _)); refine blk_put (cs := #[.slice Ao28 t110.length co28, .slice none 0 0]) ?_ 1 _ rfl; (with_reducible repeat (first | refine blk_drewN ?_ _ | refine blk_drew ?_ | refine blk_alloc ?_ _)); refine blk_put (cs := #[.slice none 0 0, .slice none 0 0]) ?_ 0 _ rfl; (with_reducible repeat (first | refine blk_drewN ?_ _ | refine blk_drew ?_ | refine blk_alloc ?_ _)); exact BK117.out) hb); have n5_ := Aside0.mk (below_step (by repeat (first | (with_reducible first | exact HB.out | apply below_alloc | apply pw_below_drewN | apply below_drew1 | refine below_set ?_ GE117.out) | exact HB.out)) hb); clear HO106; clear HO109; clear HO112; clear HO115; clear BK117; clear HB; have HO106 := n0_; have HO109 := n1_; have HO112 := n2_; have HO115 := n3_; have BK117 := n4_; have HB := n5_; clear n0_ n1_ n2_ n3_ n4_ n5_; (try clear hb)))
        go_meet
        case rel => exact ⟨_, (!t118), (by first | rfl | (simp; done) | (simp [*]; done)), H', ⟨by have := HJ6.out; first | omega | exact Nat.le_refl _⟩, ⟨by (with_reducible repeat (first | apply Kd.R_alloc | apply Kd.R_drewN | apply Kd.R_drew)); exact Kd.R_mono HO112.out (fun _ hk => hk.1.1)⟩, ⟨by (with_reducible repeat (first | apply Kd.R_alloc | apply Kd.R_drewN | apply Kd.R_drew)); exact Kd.R_mono HO115.out (fun _ hk => hk.1.1)⟩, ⟨by (with_reducible repeat (first | refine blk_drewN ?_ _ | refine blk_drew ?_ | refine blk_alloc ?_ _)); exact BK117.out⟩, ⟨by repeat (first | (with_reducible first | exact HB.out | apply below_alloc | apply pw_below_drewN | apply below_drew1 | refine below_set ?_ GE117.out) | exact HB.out)⟩⟩
       ·replace c35 := Bool.eq_false_iff.mpr c35
        subst c35
        have H1 : (rubricklaw03_SealTwo.j1 kj6 a2 a3 a4 a5 false) = some true := by rw [if_neg (show ¬ (false = true) by decide)] at H; exact H
        clear H
        have H := H1
        clear H1
        have H' := Aside0.mk H
        clear H
        have hcv41 := Kd.C_string (P := Tryd.prog) (A := A0) (c := c0) Tryd.underlying22 Tryd.underlying5 Tryd.underlying9 (Kd.C_below HR0.out HB.out)
        have hcw41 := fun n_ : Nat => Kd.C_string (P := Tryd.prog) (A := A0) (c := c0) Tryd.underlying22 Tryd.underlying5 Tryd.underlying9 (Kd.C_drewN (Kd.C_below HR0.out HB.out) n_)
        have hcx41 := fun (j_ i_ : Nat) (v_ u_ : Value) => Kd.C_string (P := Tryd.prog) (A := A0) (c := c0) Tryd.underlying22 Tryd.underlying5 Tryd.underlying9 (Kd.C_below HR0.out (below_set (j := j_) (v := v_) (below_set (j := i_) (v := u_) HB.out GE117.out) GE117.out))
        have hcv42 := Kd.C_string (P := Tryd.prog) (A := A1) (c := c1) Tryd.underlying22 Tryd.underlying5 Tryd.underlying9 (Kd.C_below HR1.out HB.out)
        have hcw42 := fun n_ : Nat => Kd.C_string (P := Tryd.prog) (A := A1) (c := c1) Tryd.underlying22 Tryd.underlying5 Tryd.underlying9 (Kd.C_drewN (Kd.C_below HR1.out HB.out) n_)
        have hcx42 := fun (j_ i_ : Nat) (v_ u_ : Value) => Kd.C_string (P := Tryd.prog) (A := A1) (c := c1) Tryd.underlying22 Tryd.underlying5 Tryd.underlying9 (Kd.C_below HR1.out (below_set (j := j_) (v := v_) (below_set (j := i_) (v := u_) HB.out GE117.out) GE117.out))
        go_wp2
        go_meet
        case rel => exact ⟨_, (false), (by first | rfl | (simp; done) | (simp [*]; done)), H', ⟨by have := HJ6.out; first | omega | exact Nat.le_refl _⟩, ⟨by (with_reducible repeat (first | apply Kd.R_alloc | apply Kd.R_drewN | apply Kd.R_drew)); exact Kd.R_mono (Kd.R_far (p := ⟨gb117, 1, none⟩) (Kd.R_far (p := ⟨gb117, 0, none⟩) (Kd.R_types HO112.out BK117.out (by decide)) (fun _ hk => hk.2) (.slice Ao28 t110.length co28)) (fun _ hk => hk.2) (.slice Ao30 t113.length co30)) (fun _ hk => hk.1.1.1)⟩, ⟨by (with_reducible repeat (first | apply Kd.R_alloc | apply Kd.R_drewN | apply Kd.R_drew)); exact Kd.R_mono (Kd.R_far (p := ⟨gb117, 1, none⟩) (Kd.R_far (p := ⟨gb117, 0, none⟩) (Kd.R_types HO115.out BK117.out (by decide)) (fun _ hk => hk.2) (.slice Ao28 t110.length co28)) (fun _ hk => hk.2) (.slice Ao30 t113.length co30)) (fun _ hk => hk.1.1.1)⟩, ⟨by (with_reducible repeat (first | refine blk_drewN ?_ _ | refine blk_drew ?_ | refine blk_alloc ?_ _)); refine blk_put (cs := #[.slice Ao28 t110.length co28, .slice none 0 0]) ?_ 1 _ rfl; (with_reducible repeat (first | refine blk_drewN ?_ _ | refine blk_drew ?_ | refine blk_alloc ?_ _)); refine blk_put (cs := #[.slice none 0 0, .slice none 0 0]) ?_ 0 _ rfl; (with_reducible repeat (first | refine blk_drewN ?_ _ | refine blk_drew ?_ | refine blk_alloc ?_ _)); exact BK117.out⟩, ⟨by repeat (first | (with_reducible first | exact HB.out | apply below_alloc | apply pw_below_drewN | apply below_drew1 | refine below_set ?_ GE117.out) | exact HB.out)⟩⟩
     ·rw [if_neg c31] at H
      have c31b0 : ((strOfNums l0).toList == (strOfNums l1).toList) = false := beq_eq_false_iff_ne.mpr c31
      have c31b1 : ((strOfNums l0).toList != (strOfNums l1).toList) = true := bne_iff_ne.mpr c31
      (first | rw [c31b0] | (simp only [i64_w, i32_w]; rw [c31b0]) | skip)
      replace H := Option.bind_eq_some_iff.mp H
      obtain ⟨t119, A430, H⟩ := H
      replace H : ((seal_Leaf.f kj6 l1).bind fun t120 => (if (t116 != (t119.toList == t120.toList)) = true then (rubricklaw03_SealTwo.j1 kj6 a2 a3 a4 a5 true) else (if t116 = true then ((seal_Is.f t110 t113).bind fun t121 => (rubricklaw03_SealTwo.j1 kj6 a2 a3 a4 a5 (!t121))) else (rubricklaw03_SealTwo.j1 kj6 a2 a3 a4 a5 false)))) = some true := H
      have A43 := Aside0.mk A430
      clear A430
      replace H := Option.bind_eq_some_iff.mp H
      obtain ⟨t120, A440, H⟩ := H
      replace H : (if (t116 != (t119.toList == t120.toList)) = true then (rubricklaw03_SealTwo.j1 kj6 a2 a3 a4 a5 true) else (if t116 = true then ((seal_Is.f t110 t113).bind fun t121 => (rubricklaw03_SealTwo.j1 kj6 a2 a3 a4 a5 (!t121))) else (rubricklaw03_SealTwo.j1 kj6 a2 a3 a4 a5 false))) = some true := H
      have A44 := Aside0.mk A440
      clear A440
      by_cases c45 : (t116 != (t119.toList == t120.toList)) = true
      ·rw [if_pos c45] at H
       have c45b0 : (t116 != (t119.toList == t120.toList)) = true := c45
       (try (have c45b1 : decide (t116 = (t119.toList == t120.toList)) = false := by simpa using c45))
       (try (have c45b2 : (t116 == (t119.toList == t120.toList)) = false := by simpa using c45))
       (try (have c45b3 : ¬ (t116 = (t119.toList == t120.toList)) := by simpa using c45))
       clear c45
       have H' := Aside0.mk H
       clear H
       have hcv46 := Kd.C_string (P := Tryd.prog) (A := A0) (c := c0) Tryd.underlying22 Tryd.underlying5 Tryd.underlying9 (Kd.C_below HR0.out HB.out)
       have hcw46 := fun n_ : Nat => Kd.C_string (P := Tryd.prog) (A := A0) (c := c0) Tryd.underlying22 Tryd.underlying5 Tryd.underlying9 (Kd.C_drewN (Kd.C_below HR0.out HB.out) n_)
       have hcx46 := fun (j_ i_ : Nat) (v_ u_ : Value) => Kd.C_string (P := Tryd.prog) (A := A0) (c := c0) Tryd.underlying22 Tryd.underlying5 Tryd.underlying9 (Kd.C_below HR0.out (below_set (j := j_) (v := v_) (below_set (j := i_) (v := u_) HB.out GE117.out) GE117.out))
       have hcv47 := Kd.C_string (P := Tryd.prog) (A := A1) (c := c1) Tryd.underlying22 Tryd.underlying5 Tryd.underlying9 (Kd.C_below HR1.out HB.out)
       have hcw47 := fun n_ : Nat => Kd.C_string (P := Tryd.prog) (A := A1) (c := c1) Tryd.underlying22 Tryd.underlying5 Tryd.underlying9 (Kd.C_drewN (Kd.C_below HR1.out HB.out) n_)
       have hcx47 := fun (j_ i_ : Nat) (v_ u_ : Value) => Kd.C_string (P := Tryd.prog) (A := A1) (c := c1) Tryd.underlying22 Tryd.underlying5 Tryd.underlying9 (Kd.C_below HR1.out (below_set (j := j_) (v := v_) (below_set (j := i_) (v := u_) HB.out GE117.out) GE117.out))
       go_wp2_with (first | (go_at_call 19; (with_reducible refine (seal_Leaf.calls kj6 _ _ l0 t119 _ ?side3 ?side1 ?side2 A43.out).mono ?_); (case side1 => exact Kd.C_below HR0.out (by repeat (first | (with_reducible first | exact HB.out | apply below_alloc | apply pw_below_drewN | apply below_drew1 | refine below_set ?_ GE117.out) | exact HB.out))); (case side2 => exact HC0.out); (case side3 => exact gw_step hG_ (by repeat (first | (with_reducible first | exact HB.out | apply below_alloc | apply pw_below_drewN | apply below_drew1 | refine below_set ?_ GE117.out) | exact HB.out))); rintro e w48 ⟨rfl, hb⟩; have n0_ := Aside0.mk (Kd.R_below (by (with_reducible repeat (first | apply Kd.R_alloc | apply Kd.R_drewN | apply Kd.R_drew)); exact (Kd.R_mono (Kd.R_far (p := ⟨gb117, 1, none⟩) (Kd.R_far (p := ⟨gb117, 0, none⟩) (Kd.R_types HO106.out BK117.out (by decide)) (fun _ hk => hk.2) (.slice Ao28 t110.length co28)) (fun _ hk => hk.2) (.slice Ao30 t113.length co30)) (fun _ h_ => h_.1))) hb); have n1_ := Aside0.mk (Kd.R_below (by (with_reducible repeat (first | apply Kd.R_alloc | apply Kd.R_drewN | apply Kd.R_drew)); exact (Kd.R_mono (Kd.R_far (p := ⟨gb117, 1, none⟩) (Kd.R_far (p := ⟨gb117, 0, none⟩) (Kd.R_types HO109.out BK117.out (by decide)) (fun _ hk => hk.2) (.slice Ao28 t110.length co28)) (fun _ hk => hk.2) (.slice Ao30 t113.length co30)) (fun _ h_ => h_.1))) hb); have n2_ := Aside0.mk (Kd.R_below (by (with_reducible repeat (first | apply Kd.R_alloc | apply Kd.R_drewN | apply Kd.R_drew)); exact (Kd.R_mono (Kd.R_far (p := ⟨gb117, 1, none⟩) (Kd.R_far (p := ⟨gb117, 0, none⟩) (Kd.R_types HO112.out BK117.out (by decide)) (fun _ hk => hk.2) (.slice Ao28 t110.length co28)) (fun _ hk => hk.2) (.slice Ao30 t113.length co30)) (fun _ h_ => h_.1))) hb); have n3_ := Aside0.mk (Kd.R_below (by (with_reducible repeat (first | apply Kd.R_alloc | apply Kd.R_drewN | apply Kd.R_drew)); exact (Kd.R_mono (Kd.R_far (p := ⟨gb117, 1, none⟩) (Kd.R_far (p := ⟨gb117, 0, none⟩) (Kd.R_types HO115.out BK117.out (by decide)) (fun _ hk => hk.2) (.slice Ao28 t110.length co28)) (fun _ hk => hk.2) (.slice Ao30 t113.length co30)) (fun _ h_ => h_.1))) hb); have n4_ := Aside0.mk (blk_below (g := gb117) (o := .cells #[.slice Ao28 t110.length co28, .slice Ao30 t113.length co30] 53 (0, 0)) (by (with_reducible repeat (first | refine blk_drewN ?_ _ | refine blk_drew ?_ | refine blk_alloc ?_ _)); refine blk_put (cs := #[.slice Ao28 t110.length co28, .slice none 0 0]) ?_ 1 _ rfl; (with_reducible repeat (first | refine blk_drewN ?_ _ | refine blk_drew ?_ | refine blk_alloc ?_ _)); refine blk_put (cs := #[.slice none 0 0, .slice none 0 0]) ?_ 0 _ rfl; (with_reducible repeat (first | refine blk_drewN ?_ _ | refine blk_drew ?_ | refine blk_alloc ?_ _)); exact BK117.out) hb); have n5_ := Aside0.mk (below_step (by repeat (first | (with_reducible first | exact HB.out | apply below_alloc | apply pw_below_drewN | apply below_drew1 | refine below_set ?_ GE117.out) | exact HB.out)) hb); clear HO106; clear HO109; clear HO112; clear HO115; clear BK117; clear HB; have HO106 := n0_; have HO109 := n1_; have HO112 := n2_; have HO115 := n3_; have BK117 := n4_; have HB := n5_; clear n0_ n1_ n2_ n3_ n4_ n5_; (try clear hb)) | (go_at_call 19; (with_reducible refine (seal_Leaf.calls kj6 _ _ l1 t120 _ ?side3 ?side1 ?side2 A44.out).mono ?_); (case side1 => repeat (first | exact (Kd.C_below HR1.out HB.out) | (with_reducible refine Kd.C_alloc ?_ _) | (with_reducible refine Kd.C_drewN ?_ _) | (with_reducible refine Kd.C_drew ?_))); (case side2 => exact HC1.out); (case side3 => exact gw_step hG_ (by repeat (first | (with_reducible first | exact HB.out | apply below_alloc | apply pw_below_drewN | apply below_drew1 | refine below_set ?_ GE117.out) | exact HB.out))); rintro e w49 ⟨rfl, hb⟩; have n0_ := Aside0.mk (HCmp.rB HO106.out hb); have n1_ := Aside0.mk (HCmp.rB HO109.out hb); have n2_ := Aside0.mk (HCmp.rB HO112.out hb); have n3_ := Aside0.mk (HCmp.rB HO115.out hb); have n4_ := Aside0.mk (HCmp.kB BK117.out hb); have n5_ := Aside0.mk (below_step (by repeat (first | (with_reducible first | exact HB.out | apply below_alloc | apply pw_below_drewN | apply below_drew1 | refine below_set ?_ GE117.out) | exact HB.out)) hb); clear HO106; clear HO109; clear HO112; clear HO115; clear BK117; clear HB; have HO106 := n0_; have HO109 := n1_; have HO112 := n2_; have HO115 := n3_; have BK117 := n4_; have HB := n5_; clear n0_ n1_ n2_ n3_ n4_ n5_; (try clear hb)))
       go_meet
       case rel => exact ⟨_, (true), (by first | rfl | (simp; done) | (simp [*]; done)), H', ⟨by have := HJ6.out; first | omega | exact Nat.le_refl _⟩, ⟨by (with_reducible repeat (first | apply Kd.R_alloc | apply Kd.R_drewN | apply Kd.R_drew)); exact Kd.R_mono HO112.out (fun _ hk => hk.1.1)⟩, ⟨by (with_reducible repeat (first | apply Kd.R_alloc | apply Kd.R_drewN | apply Kd.R_drew)); exact Kd.R_mono HO115.out (fun _ hk => hk.1.1)⟩, ⟨by (with_reducible repeat (first | refine blk_drewN ?_ _ | refine blk_drew ?_ | refine blk_alloc ?_ _)); exact BK117.out⟩, ⟨by repeat (first | (with_reducible first | exact HB.out | apply below_alloc | apply pw_below_drewN | apply below_drew1 | refine below_set ?_ GE117.out) | exact HB.out)⟩⟩
      ·rw [if_neg c45] at H
       have c45b0 : (t116 != (t119.toList == t120.toList)) = false := by simpa using c45
       (try (have c45b1 : decide (t116 = (t119.toList == t120.toList)) = true := by simpa using c45))
       (try (have c45b2 : (t116 == (t119.toList == t120.toList)) = true := by simpa using c45))
       clear c45
       by_cases c50 : t116 = true
       ·subst c50
        have H1 : ((seal_Is.f t110 t113).bind fun t121 => (rubricklaw03_SealTwo.j1 kj6 a2 a3 a4 a5 (!t121))) = some true := by rw [if_pos rfl] at H; exact H
        clear H
        have H := H1
        clear H1
        replace H := Option.bind_eq_some_iff.mp H
        obtain ⟨t121, A510, H⟩ := H
        replace H : (rubricklaw03_SealTwo.j1 kj6 a2 a3 a4 a5 (!t121)) = some true := H
        have A51 := Aside0.mk A510
        clear A510
        have H' := Aside0.mk H
        clear H
        have hcv52 := Kd.C_string (P := Tryd.prog) (A := A0) (c := c0) Tryd.underlying22 Tryd.underlying5 Tryd.underlying9 (Kd.C_below HR0.out HB.out)
        have hcw52 := fun n_ : Nat => Kd.C_string (P := Tryd.prog) (A := A0) (c := c0) Tryd.underlying22 Tryd.underlying5 Tryd.underlying9 (Kd.C_drewN (Kd.C_below HR0.out HB.out) n_)
        have hcx52 := fun (j_ i_ : Nat) (v_ u_ : Value) => Kd.C_string (P := Tryd.prog) (A := A0) (c := c0) Tryd.underlying22 Tryd.underlying5 Tryd.underlying9 (Kd.C_below HR0.out (below_set (j := j_) (v := v_) (below_set (j := i_) (v := u_) HB.out GE117.out) GE117.out))
        have hcv53 := Kd.C_string (P := Tryd.prog) (A := A1) (c := c1) Tryd.underlying22 Tryd.underlying5 Tryd.underlying9 (Kd.C_below HR1.out HB.out)
        have hcw53 := fun n_ : Nat => Kd.C_string (P := Tryd.prog) (A := A1) (c := c1) Tryd.underlying22 Tryd.underlying5 Tryd.underlying9 (Kd.C_drewN (Kd.C_below HR1.out HB.out) n_)
        have hcx53 := fun (j_ i_ : Nat) (v_ u_ : Value) => Kd.C_string (P := Tryd.prog) (A := A1) (c := c1) Tryd.underlying22 Tryd.underlying5 Tryd.underlying9 (Kd.C_below HR1.out (below_set (j := j_) (v := v_) (below_set (j := i_) (v := u_) HB.out GE117.out) GE117.out))
        go_wp2_with (first | (go_at_call 19; (with_reducible refine (seal_Leaf.calls kj6 _ _ l0 t119 _ ?side3 ?side1 ?side2 A43.out).mono ?_); (case side1 => exact Kd.C_below HR0.out (by repeat (first | (with_reducible first | exact HB.out | apply below_alloc | apply pw_below_drewN | apply below_drew1 | refine below_set ?_ GE117.out) | exact HB.out))); (case side2 => exact HC0.out); (case side3 => exact gw_step hG_ (by repeat (first | (with_reducible first | exact HB.out | apply below_alloc | apply pw_below_drewN | apply below_drew1 | refine below_set ?_ GE117.out) | exact HB.out))); rintro e w54 ⟨rfl, hb⟩; have n0_ := Aside0.mk (Kd.R_below (by (with_reducible repeat (first | apply Kd.R_alloc | apply Kd.R_drewN | apply Kd.R_drew)); exact (Kd.R_mono (Kd.R_far (p := ⟨gb117, 1, none⟩) (Kd.R_far (p := ⟨gb117, 0, none⟩) (Kd.R_types HO106.out BK117.out (by decide)) (fun _ hk => hk.2) (.slice Ao28 t110.length co28)) (fun _ hk => hk.2) (.slice Ao30 t113.length co30)) (fun _ h_ => h_.1))) hb); have n1_ := Aside0.mk (Kd.R_below (by (with_reducible repeat (first | apply Kd.R_alloc | apply Kd.R_drewN | apply Kd.R_drew)); exact (Kd.R_mono (Kd.R_far (p := ⟨gb117, 1, none⟩) (Kd.R_far (p := ⟨gb117, 0, none⟩) (Kd.R_types HO109.out BK117.out (by decide)) (fun _ hk => hk.2) (.slice Ao28 t110.length co28)) (fun _ hk => hk.2) (.slice Ao30 t113.length co30)) (fun _ h_ => h_.1))) hb); have n2_ := Aside0.mk (Kd.R_below (by (with_reducible repeat (first | apply Kd.R_alloc | apply Kd.R_drewN | apply Kd.R_drew)); exact (Kd.R_mono (Kd.R_far (p := ⟨gb117, 1, none⟩) (Kd.R_far (p := ⟨gb117, 0, none⟩) (Kd.R_types HO112.out BK117.out (by decide)) (fun _ hk => hk.2) (.slice Ao28 t110.length co28)) (fun _ hk => hk.2) (.slice Ao30 t113.length co30)) (fun _ h_ => h_.1))) hb); have n3_ := Aside0.mk (Kd.R_below (by (with_reducible repeat (first | apply Kd.R_alloc | apply Kd.R_drewN | apply Kd.R_drew)); exact (Kd.R_mono (Kd.R_far (p := ⟨gb117, 1, none⟩) (Kd.R_far (p := ⟨gb117, 0, none⟩) (Kd.R_types HO115.out BK117.out (by decide)) (fun _ hk => hk.2) (.slice Ao28 t110.length co28)) (fun _ hk => hk.2) (.slice Ao30 t113.length co30)) (fun _ h_ => h_.1))) hb); have n4_ := Aside0.mk (blk_below (g := gb117) (o := .cells #[.slice Ao28 t110.length co28, .slice Ao30 t113.length co30] 53 (0, 0)) (by (with_reducible repeat (first | refine blk_drewN ?_ _ | refine blk_drew ?_ | refine blk_alloc ?_ _)); refine blk_put (cs := #[.slice Ao28 t110.length co28, .slice none 0 0]) ?_ 1 _ rfl; (with_reducible repeat (first | refine blk_drewN ?_ _ | refine blk_drew ?_ | refine blk_alloc ?_ _)); refine blk_put (cs := #[.slice none 0 0, .slice none 0 0]) ?_ 0 _ rfl; (with_reducible repeat (first | refine blk_drewN ?_ _ | refine blk_drew ?_ | refine blk_alloc ?_ _)); exact BK117.out) hb); have n5_ := Aside0.mk (below_step (by repeat (first | (with_reducible first | exact HB.out | apply below_alloc | apply pw_below_drewN | apply below_drew1 | refine below_set ?_ GE117.out) | exact HB.out)) hb); clear HO106; clear HO109; clear HO112; clear HO115; clear BK117; clear HB; have HO106 := n0_; have HO109 := n1_; have HO112 := n2_; have HO115 := n3_; have BK117 := n4_; have HB := n5_; clear n0_ n1_ n2_ n3_ n4_ n5_; (try clear hb)) | (go_at_call 19; (with_reducible refine (seal_Leaf.calls kj6 _ _ l1 t120 _ ?side3 ?side1 ?side2 A44.out).mono ?_); (case side1 => repeat (first | exact (Kd.C_below HR1.out HB.out) | (with_reducible refine Kd.C_alloc ?_ _) | (with_reducible refine Kd.C_drewN ?_ _) | (with_reducible refine Kd.C_drew ?_))); (case side2 => exact HC1.out); (case side3 => exact gw_step hG_ (by repeat (first | (with_reducible first | exact HB.out | apply below_alloc | apply pw_below_drewN | apply below_drew1 | refine below_set ?_ GE117.out) | exact HB.out))); rintro e w55 ⟨rfl, hb⟩; have n0_ := Aside0.mk (HCmp.rB HO106.out hb); have n1_ := Aside0.mk (HCmp.rB HO109.out hb); have n2_ := Aside0.mk (HCmp.rB HO112.out hb); have n3_ := Aside0.mk (HCmp.rB HO115.out hb); have n4_ := Aside0.mk (HCmp.kB BK117.out hb); have n5_ := Aside0.mk (below_step (by repeat (first | (with_reducible first | exact HB.out | apply below_alloc | apply pw_below_drewN | apply below_drew1 | refine below_set ?_ GE117.out) | exact HB.out)) hb); clear HO106; clear HO109; clear HO112; clear HO115; clear BK117; clear HB; have HO106 := n0_; have HO109 := n1_; have HO112 := n2_; have HO115 := n3_; have BK117 := n4_; have HB := n5_; clear n0_ n1_ n2_ n3_ n4_ n5_; (try clear hb); have hcz56_0 : w55.cell? ⟨gb117, 0, none⟩ = some (.slice Ao28 t110.length co28) := (blk_cell BK117.out 0).trans rfl; have hcz56_1 : w55.cell? ⟨gb117, 1, none⟩ = some (.slice Ao30 t113.length co30) := (blk_cell BK117.out 1).trans rfl; have hfz56_0 := blk_frozen BK117.out 0; have hfz56_1 := blk_frozen BK117.out 1) | (go_at_call 38; (with_reducible refine (seal_Is.calls _ _ t110 _ _ t113 t121 _ ?side5 ?side1 ?side2 ?side3 ?side4 A51.out).mono ?_); (case side1 => repeat (first | exact (Kd.R_reads' HO112.out).2.2 | (with_reducible refine Kd.C_alloc ?_ _) | (with_reducible refine Kd.C_drewN ?_ _) | (with_reducible refine Kd.C_drew ?_))); (case side2 => exact (Kd.R_reads' HO112.out).2.1); (case side3 => repeat (first | exact (Kd.R_reads' HO115.out).2.2 | (with_reducible refine Kd.C_alloc ?_ _) | (with_reducible refine Kd.C_drewN ?_ _) | (with_reducible refine Kd.C_drew ?_))); (case side4 => exact (Kd.R_reads' HO115.out).2.1); (case side5 => exact gw_step hG_ (by repeat (first | (with_reducible first | exact HB.out | apply below_alloc | apply pw_below_drewN | apply below_drew1 | refine below_set ?_ GE117.out) | exact HB.out))); rintro e w57 ⟨rfl, hb⟩; have n0_ := Aside0.mk (HCmp.rB HO106.out hb); have n1_ := Aside0.mk (HCmp.rB HO109.out hb); have n2_ := Aside0.mk (HCmp.rB HO112.out hb); have n3_ := Aside0.mk (HCmp.rB HO115.out hb); have n4_ := Aside0.mk (HCmp.kB BK117.out hb); have n5_ := Aside0.mk (below_step (by repeat (first | (with_reducible first | exact HB.out | apply below_alloc | apply pw_below_drewN | apply below_drew1 | refine below_set ?_ GE117.out) | exact HB.out)) hb); clear HO106; clear HO109; clear HO112; clear HO115; clear BK117; clear HB; have HO106 := n0_; have HO109 := n1_; have HO112 := n2_; have HO115 := n3_; have BK117 := n4_; have HB := n5_; clear n0_ n1_ n2_ n3_ n4_ n5_; (try clear hb)))
        go_meet
        case rel => exact ⟨_, (!t121), (by first | rfl | (simp; done) | (simp [*]; done)), H', ⟨by have := HJ6.out; first | omega | exact Nat.le_refl _⟩, ⟨by (with_reducible repeat (first | apply Kd.R_alloc | apply Kd.R_drewN | apply Kd.R_drew)); exact Kd.R_mono HO112.out (fun _ hk => hk.1.1)⟩, ⟨by (with_reducible repeat (first | apply Kd.R_alloc | apply Kd.R_drewN | apply Kd.R_drew)); exact Kd.R_mono HO115.out (fun _ hk => hk.1.1)⟩, ⟨by (with_reducible repeat (first | refine blk_drewN ?_ _ | refine blk_drew ?_ | refine blk_alloc ?_ _)); exact BK117.out⟩, ⟨by repeat (first | (with_reducible first | exact HB.out | apply below_alloc | apply pw_below_drewN | apply below_drew1 | refine below_set ?_ GE117.out) | exact HB.out)⟩⟩
       ·replace c50 := Bool.eq_false_iff.mpr c50
        subst c50
        have H1 : (rubricklaw03_SealTwo.j1 kj6 a2 a3 a4 a5 false) = some true := by rw [if_neg (show ¬ (false = true) by decide)] at H; exact H
        clear H
        have H := H1
        clear H1
        have H' := Aside0.mk H
        clear H
        have hcv58 := Kd.C_string (P := Tryd.prog) (A := A0) (c := c0) Tryd.underlying22 Tryd.underlying5 Tryd.underlying9 (Kd.C_below HR0.out HB.out)
        have hcw58 := fun n_ : Nat => Kd.C_string (P := Tryd.prog) (A := A0) (c := c0) Tryd.underlying22 Tryd.underlying5 Tryd.underlying9 (Kd.C_drewN (Kd.C_below HR0.out HB.out) n_)
        have hcx58 := fun (j_ i_ : Nat) (v_ u_ : Value) => Kd.C_string (P := Tryd.prog) (A := A0) (c := c0) Tryd.underlying22 Tryd.underlying5 Tryd.underlying9 (Kd.C_below HR0.out (below_set (j := j_) (v := v_) (below_set (j := i_) (v := u_) HB.out GE117.out) GE117.out))
        have hcv59 := Kd.C_string (P := Tryd.prog) (A := A1) (c := c1) Tryd.underlying22 Tryd.underlying5 Tryd.underlying9 (Kd.C_below HR1.out HB.out)
        have hcw59 := fun n_ : Nat => Kd.C_string (P := Tryd.prog) (A := A1) (c := c1) Tryd.underlying22 Tryd.underlying5 Tryd.underlying9 (Kd.C_drewN (Kd.C_below HR1.out HB.out) n_)
        have hcx59 := fun (j_ i_ : Nat) (v_ u_ : Value) => Kd.C_string (P := Tryd.prog) (A := A1) (c := c1) Tryd.underlying22 Tryd.underlying5 Tryd.underlying9 (Kd.C_below HR1.out (below_set (j := j_) (v := v_) (below_set (j := i_) (v := u_) HB.out GE117.out) GE117.out))
        go_wp2_with (first | (go_at_call 19; (with_reducible refine (seal_Leaf.calls kj6 _ _ l0 t119 _ ?side3 ?side1 ?side2 A43.out).mono ?_); (case side1 => exact Kd.C_below HR0.out (by repeat (first | (with_reducible first | exact HB.out | apply below_alloc | apply pw_below_drewN | apply below_drew1 | refine below_set ?_ GE117.out) | exact HB.out))); (case side2 => exact HC0.out); (case side3 => exact gw_step hG_ (by repeat (first | (with_reducible first | exact HB.out | apply below_alloc | apply pw_below_drewN | apply below_drew1 | refine below_set ?_ GE117.out) | exact HB.out))); rintro e w60 ⟨rfl, hb⟩; have n0_ := Aside0.mk (Kd.R_below (by (with_reducible repeat (first | apply Kd.R_alloc | apply Kd.R_drewN | apply Kd.R_drew)); exact (Kd.R_mono (Kd.R_far (p := ⟨gb117, 1, none⟩) (Kd.R_far (p := ⟨gb117, 0, none⟩) (Kd.R_types HO106.out BK117.out (by decide)) (fun _ hk => hk.2) (.slice Ao28 t110.length co28)) (fun _ hk => hk.2) (.slice Ao30 t113.length co30)) (fun _ h_ => h_.1))) hb); have n1_ := Aside0.mk (Kd.R_below (by (with_reducible repeat (first | apply Kd.R_alloc | apply Kd.R_drewN | apply Kd.R_drew)); exact (Kd.R_mono (Kd.R_far (p := ⟨gb117, 1, none⟩) (Kd.R_far (p := ⟨gb117, 0, none⟩) (Kd.R_types HO109.out BK117.out (by decide)) (fun _ hk => hk.2) (.slice Ao28 t110.length co28)) (fun _ hk => hk.2) (.slice Ao30 t113.length co30)) (fun _ h_ => h_.1))) hb); have n2_ := Aside0.mk (Kd.R_below (by (with_reducible repeat (first | apply Kd.R_alloc | apply Kd.R_drewN | apply Kd.R_drew)); exact (Kd.R_mono (Kd.R_far (p := ⟨gb117, 1, none⟩) (Kd.R_far (p := ⟨gb117, 0, none⟩) (Kd.R_types HO112.out BK117.out (by decide)) (fun _ hk => hk.2) (.slice Ao28 t110.length co28)) (fun _ hk => hk.2) (.slice Ao30 t113.length co30)) (fun _ h_ => h_.1))) hb); have n3_ := Aside0.mk (Kd.R_below (by (with_reducible repeat (first | apply Kd.R_alloc | apply Kd.R_drewN | apply Kd.R_drew)); exact (Kd.R_mono (Kd.R_far (p := ⟨gb117, 1, none⟩) (Kd.R_far (p := ⟨gb117, 0, none⟩) (Kd.R_types HO115.out BK117.out (by decide)) (fun _ hk => hk.2) (.slice Ao28 t110.length co28)) (fun _ hk => hk.2) (.slice Ao30 t113.length co30)) (fun _ h_ => h_.1))) hb); have n4_ := Aside0.mk (blk_below (g := gb117) (o := .cells #[.slice Ao28 t110.length co28, .slice Ao30 t113.length co30] 53 (0, 0)) (by (with_reducible repeat (first | refine blk_drewN ?_ _ | refine blk_drew ?_ | refine blk_alloc ?_ _)); refine blk_put (cs := #[.slice Ao28 t110.length co28, .slice none 0 0]) ?_ 1 _ rfl; (with_reducible repeat (first | refine blk_drewN ?_ _ | refine blk_drew ?_ | refine blk_alloc ?_ _)); refine blk_put (cs := #[.slice none 0 0, .slice none 0 0]) ?_ 0 _ rfl; (with_reducible repeat (first | refine blk_drewN ?_ _ | refine blk_drew ?_ | refine blk_alloc ?_ _)); exact BK117.out) hb); have n5_ := Aside0.mk (below_step (by repeat (first | (with_reducible first | exact HB.out | apply below_alloc | apply pw_below_drewN | apply below_drew1 | refine below_set ?_ GE117.out) | exact HB.out)) hb); clear HO106; clear HO109; clear HO112; clear HO115; clear BK117; clear HB; have HO106 := n0_; have HO109 := n1_; have HO112 := n2_; have HO115 := n3_; have BK117 := n4_; have HB := n5_; clear n0_ n1_ n2_ n3_ n4_ n5_; (try clear hb)) | (go_at_call 19; (with_reducible refine (seal_Leaf.calls kj6 _ _ l1 t120 _ ?side3 ?side1 ?side2 A44.out).mono ?_); (case side1 => repeat (first | exact (Kd.C_below HR1.out HB.out) | (with_reducible refine Kd.C_alloc ?_ _) | (with_reducible refine Kd.C_drewN ?_ _) | (with_reducible refine Kd.C_drew ?_))); (case side2 => exact HC1.out); (case side3 => exact gw_step hG_ (by repeat (first | (with_reducible first | exact HB.out | apply below_alloc | apply pw_below_drewN | apply below_drew1 | refine below_set ?_ GE117.out) | exact HB.out))); rintro e w61 ⟨rfl, hb⟩; have n0_ := Aside0.mk (HCmp.rB HO106.out hb); have n1_ := Aside0.mk (HCmp.rB HO109.out hb); have n2_ := Aside0.mk (HCmp.rB HO112.out hb); have n3_ := Aside0.mk (HCmp.rB HO115.out hb); have n4_ := Aside0.mk (HCmp.kB BK117.out hb); have n5_ := Aside0.mk (below_step (by repeat (first | (with_reducible first | exact HB.out | apply below_alloc | apply pw_below_drewN | apply below_drew1 | refine below_set ?_ GE117.out) | exact HB.out)) hb); clear HO106; clear HO109; clear HO112; clear HO115; clear BK117; clear HB; have HO106 := n0_; have HO109 := n1_; have HO112 := n2_; have HO115 := n3_; have BK117 := n4_; have HB := n5_; clear n0_ n1_ n2_ n3_ n4_ n5_; (try clear hb)))
        go_meet
        case rel => exact ⟨_, (false), (by first | rfl | (simp; done) | (simp [*]; done)), H', ⟨by have := HJ6.out; first | omega | exact Nat.le_refl _⟩, ⟨by (with_reducible repeat (first | apply Kd.R_alloc | apply Kd.R_drewN | apply Kd.R_drew)); exact Kd.R_mono HO112.out (fun _ hk => hk.1.1)⟩, ⟨by (with_reducible repeat (first | apply Kd.R_alloc | apply Kd.R_drewN | apply Kd.R_drew)); exact Kd.R_mono HO115.out (fun _ hk => hk.1.1)⟩, ⟨by (with_reducible repeat (first | refine blk_drewN ?_ _ | refine blk_drew ?_ | refine blk_alloc ?_ _)); exact BK117.out⟩, ⟨by repeat (first | (with_reducible first | exact HB.out | apply below_alloc | apply pw_below_drewN | apply below_drew1 | refine below_set ?_ GE117.out) | exact HB.out)⟩⟩
    case rest =>
     clear HC21
     try clear c1
     try clear p2
     try clear c3
     try clear hcv3
     try clear c4
     try clear hcv4
     try clear c5
     try clear hcv5
     try clear c9
     try clear c11
     try clear c12
     try clear c12b0
     try clear c12b1
     try clear c13
     try clear c13b0
     try clear c13b1
     try clear c14
     try clear c14b0
     try clear c14b1
     try clear c15
     try clear c31
     try clear c31b0
     try clear c31b1
     try clear c32
     try clear c32b0
     try clear c32b1
     try clear c32b2
     try clear hcv33
     try clear hcv34
     try clear c35
     try clear c36
     try clear hcv37
     try clear hcv38
     try clear hcv41
     try clear hcv42
     try clear c45
     try clear c45b0
     try clear c45b1
     try clear c45b2
     try clear hcv46
     try clear hcv47
     try clear c50
     try clear hcv52
     try clear hcv53
     try clear hcv58
     try clear hcv59
     try clear hcz29_0
     try clear hcz29_1
     try clear hcz39_0
     try clear hcz39_1
     try clear hcz56_0
     try clear hcz56_1
     try clear hfz29_0
     try clear hfz29_1
     try clear hfz39_0
     try clear hfz39_1
     try clear hfz56_0
     try clear hfz56_1
     try clear p2
     obtain ⟨kq, x77_20, rfl, HA, HJ20, HO_118000, HO_118001, BK117, HB⟩ := hcut
     cases kq with
     | zero => exact absurd HA.out (by simp [rubricklaw03_SealTwo.j1])
     | succ kj20 =>
      have H := HA.out
      clear HA
      simp only [rubricklaw03_SealTwo.j1] at H
      by_cases c62 : x77_20 = true
      ·subst c62
       have H1 : (some false) = some true := by rw [if_pos rfl] at H; exact H
       clear H
       have H := H1
       clear H1
       cases H
      ·replace c62 := Bool.eq_false_iff.mpr c62
       subst c62
       have H1 : ((seal_Node.f kj20 a2 a3).bind fun bt122 => ((seal_Node.f kj20 a4 a5).bind fun bt124 => ((seal_NodeBytes.f kj20 a2 a3).bind fun t126 => ((seal_NodeBytes.f kj20 a4 a5).bind fun t129 => ((seal_Between.f t126 t129).bind fun bt132 => (if a2.toList = a4.toList then (if a3.toList = a5.toList then (if (bt132.2.2 != false) = true then (some false) else (if bt132.2.2 = true then ((rubrickref01_Sum.f kj20 bt132.1).bind fun t140 => ((rubrickref01_Sum.f kj20 bt132.2.1).bind fun t141 => (if t140.toList = t141.toList then ((rubricklaw03_knows.f kj20).bind fun t142 => (some t142)) else (some false)))) else ((rubricklaw03_knows.f kj20).bind fun t143 => (some t143)))) else (if (bt132.2.2 != (bt122.1.toList == bt124.1.toList)) = true then (some false) else (if bt132.2.2 = true then ((rubrickref01_Sum.f kj20 bt132.1).bind fun t144 => ((rubrickref01_Sum.f kj20 bt132.2.1).bind fun t145 => (if t144.toList = t145.toList then ((rubricklaw03_knows.f kj20).bind fun t146 => (some t146)) else (some false)))) else ((rubricklaw03_knows.f kj20).bind fun t147 => (some t147))))) else (if (bt132.2.2 != (bt122.1.toList == bt124.1.toList)) = true then (some false) else (if bt132.2.2 = true then ((rubrickref01_Sum.f kj20 bt132.1).bind fun t148 => ((rubrickref01_Sum.f kj20 bt132.2.1).bind fun t149 => (if t148.toList = t149.toList then ((rubricklaw03_knows.f kj20).bind fun t150 => (some t150)) else (some false)))) else ((rubricklaw03_knows.f kj20).bind fun t151 => (some t151)))))))))) = some true := by rw [if_neg (show ¬ (false = true) by decide)] at H; exact H
       clear H
       have H := H1
       clear H1
       replace H := Option.bind_eq_some_iff.mp H
       obtain ⟨⟨t122, t123⟩, A630, H⟩ := H
       replace H : ((seal_Node.f kj20 a4 a5).bind fun bt124 => ((seal_NodeBytes.f kj20 a2 a3).bind fun t126 => ((seal_NodeBytes.f kj20 a4 a5).bind fun t129 => ((seal_Between.f t126 t129).bind fun bt132 => (if a2.toList = a4.toList then (if a3.toList = a5.toList then (if (bt132.2.2 != false) = true then (some false) else (if bt132.2.2 = true then ((rubrickref01_Sum.f kj20 bt132.1).bind fun t140 => ((rubrickref01_Sum.f kj20 bt132.2.1).bind fun t141 => (if t140.toList = t141.toList then ((rubricklaw03_knows.f kj20).bind fun t142 => (some t142)) else (some false)))) else ((rubricklaw03_knows.f kj20).bind fun t143 => (some t143)))) else (if (bt132.2.2 != (t122.toList == bt124.1.toList)) = true then (some false) else (if bt132.2.2 = true then ((rubrickref01_Sum.f kj20 bt132.1).bind fun t144 => ((rubrickref01_Sum.f kj20 bt132.2.1).bind fun t145 => (if t144.toList = t145.toList then ((rubricklaw03_knows.f kj20).bind fun t146 => (some t146)) else (some false)))) else ((rubricklaw03_knows.f kj20).bind fun t147 => (some t147))))) else (if (bt132.2.2 != (t122.toList == bt124.1.toList)) = true then (some false) else (if bt132.2.2 = true then ((rubrickref01_Sum.f kj20 bt132.1).bind fun t148 => ((rubrickref01_Sum.f kj20 bt132.2.1).bind fun t149 => (if t148.toList = t149.toList then ((rubricklaw03_knows.f kj20).bind fun t150 => (some t150)) else (some false)))) else ((rubricklaw03_knows.f kj20).bind fun t151 => (some t151))))))))) = some true := H
       have A63 := Aside0.mk A630
       clear A630
       replace H := Option.bind_eq_some_iff.mp H
       obtain ⟨⟨t124, t125⟩, A640, H⟩ := H
       replace H : ((seal_NodeBytes.f kj20 a2 a3).bind fun t126 => ((seal_NodeBytes.f kj20 a4 a5).bind fun t129 => ((seal_Between.f t126 t129).bind fun bt132 => (if a2.toList = a4.toList then (if a3.toList = a5.toList then (if (bt132.2.2 != false) = true then (some false) else (if bt132.2.2 = true then ((rubrickref01_Sum.f kj20 bt132.1).bind fun t140 => ((rubrickref01_Sum.f kj20 bt132.2.1).bind fun t141 => (if t140.toList = t141.toList then ((rubricklaw03_knows.f kj20).bind fun t142 => (some t142)) else (some false)))) else ((rubricklaw03_knows.f kj20).bind fun t143 => (some t143)))) else (if (bt132.2.2 != (t122.toList == t124.toList)) = true then (some false) else (if bt132.2.2 = true then ((rubrickref01_Sum.f kj20 bt132.1).bind fun t144 => ((rubrickref01_Sum.f kj20 bt132.2.1).bind fun t145 => (if t144.toList = t145.toList then ((rubricklaw03_knows.f kj20).bind fun t146 => (some t146)) else (some false)))) else ((rubricklaw03_knows.f kj20).bind fun t147 => (some t147))))) else (if (bt132.2.2 != (t122.toList == t124.toList)) = true then (some false) else (if bt132.2.2 = true then ((rubrickref01_Sum.f kj20 bt132.1).bind fun t148 => ((rubrickref01_Sum.f kj20 bt132.2.1).bind fun t149 => (if t148.toList = t149.toList then ((rubricklaw03_knows.f kj20).bind fun t150 => (some t150)) else (some false)))) else ((rubricklaw03_knows.f kj20).bind fun t151 => (some t151)))))))) = some true := H
       have A64 := Aside0.mk A640
       clear A640
       replace H := Option.bind_eq_some_iff.mp H
       obtain ⟨t126, A650, H⟩ := H
       replace H : ((seal_NodeBytes.f kj20 a4 a5).bind fun t129 => ((seal_Between.f t126 t129).bind fun bt132 => (if a2.toList = a4.toList then (if a3.toList = a5.toList then (if (bt132.2.2 != false) = true then (some false) else (if bt132.2.2 = true then ((rubrickref01_Sum.f kj20 bt132.1).bind fun t140 => ((rubrickref01_Sum.f kj20 bt132.2.1).bind fun t141 => (if t140.toList = t141.toList then ((rubricklaw03_knows.f kj20).bind fun t142 => (some t142)) else (some false)))) else ((rubricklaw03_knows.f kj20).bind fun t143 => (some t143)))) else (if (bt132.2.2 != (t122.toList == t124.toList)) = true then (some false) else (if bt132.2.2 = true then ((rubrickref01_Sum.f kj20 bt132.1).bind fun t144 => ((rubrickref01_Sum.f kj20 bt132.2.1).bind fun t145 => (if t144.toList = t145.toList then ((rubricklaw03_knows.f kj20).bind fun t146 => (some t146)) else (some false)))) else ((rubricklaw03_knows.f kj20).bind fun t147 => (some t147))))) else (if (bt132.2.2 != (t122.toList == t124.toList)) = true then (some false) else (if bt132.2.2 = true then ((rubrickref01_Sum.f kj20 bt132.1).bind fun t148 => ((rubrickref01_Sum.f kj20 bt132.2.1).bind fun t149 => (if t148.toList = t149.toList then ((rubricklaw03_knows.f kj20).bind fun t150 => (some t150)) else (some false)))) else ((rubricklaw03_knows.f kj20).bind fun t151 => (some t151))))))) = some true := H
       have A65 := Aside0.mk A650
       clear A650
       replace H := Option.bind_eq_some_iff.mp H
       obtain ⟨t129, A660, H⟩ := H
       replace H : ((seal_Between.f t126 t129).bind fun bt132 => (if a2.toList = a4.toList then (if a3.toList = a5.toList then (if (bt132.2.2 != false) = true then (some false) else (if bt132.2.2 = true then ((rubrickref01_Sum.f kj20 bt132.1).bind fun t140 => ((rubrickref01_Sum.f kj20 bt132.2.1).bind fun t141 => (if t140.toList = t141.toList then ((rubricklaw03_knows.f kj20).bind fun t142 => (some t142)) else (some false)))) else ((rubricklaw03_knows.f kj20).bind fun t143 => (some t143)))) else (if (bt132.2.2 != (t122.toList == t124.toList)) = true then (some false) else (if bt132.2.2 = true then ((rubrickref01_Sum.f kj20 bt132.1).bind fun t144 => ((rubrickref01_Sum.f kj20 bt132.2.1).bind fun t145 => (if t144.toList = t145.toList then ((rubricklaw03_knows.f kj20).bind fun t146 => (some t146)) else (some false)))) else ((rubricklaw03_knows.f kj20).bind fun t147 => (some t147))))) else (if (bt132.2.2 != (t122.toList == t124.toList)) = true then (some false) else (if bt132.2.2 = true then ((rubrickref01_Sum.f kj20 bt132.1).bind fun t148 => ((rubrickref01_Sum.f kj20 bt132.2.1).bind fun t149 => (if t148.toList = t149.toList then ((rubricklaw03_knows.f kj20).bind fun t150 => (some t150)) else (some false)))) else ((rubricklaw03_knows.f kj20).bind fun t151 => (some t151)))))) = some true := H
       have A66 := Aside0.mk A660
       clear A660
       replace H := Option.bind_eq_some_iff.mp H
       obtain ⟨⟨t132, t135, t138⟩, A670, H⟩ := H
       replace H : (if a2.toList = a4.toList then (if a3.toList = a5.toList then (if (t138 != false) = true then (some false) else (if t138 = true then ((rubrickref01_Sum.f kj20 t132).bind fun t140 => ((rubrickref01_Sum.f kj20 t135).bind fun t141 => (if t140.toList = t141.toList then ((rubricklaw03_knows.f kj20).bind fun t142 => (some t142)) else (some false)))) else ((rubricklaw03_knows.f kj20).bind fun t143 => (some t143)))) else (if (t138 != (t122.toList == t124.toList)) = true then (some false) else (if t138 = true then ((rubrickref01_Sum.f kj20 t132).bind fun t144 => ((rubrickref01_Sum.f kj20 t135).bind fun t145 => (if t144.toList = t145.toList then ((rubricklaw03_knows.f kj20).bind fun t146 => (some t146)) else (some false)))) else ((rubricklaw03_knows.f kj20).bind fun t147 => (some t147))))) else (if (t138 != (t122.toList == t124.toList)) = true then (some false) else (if t138 = true then ((rubrickref01_Sum.f kj20 t132).bind fun t148 => ((rubrickref01_Sum.f kj20 t135).bind fun t149 => (if t148.toList = t149.toList then ((rubricklaw03_knows.f kj20).bind fun t150 => (some t150)) else (some false)))) else ((rubricklaw03_knows.f kj20).bind fun t151 => (some t151))))) = some true := H
       have A67 := Aside0.mk A670
       clear A670
       by_cases c68 : a2.toList = a4.toList
       ·rw [if_pos c68] at H
        have c68b0 : (a2.toList == a4.toList) = true := beq_iff_eq.mpr c68
        have c68b1 : (a2.toList != a4.toList) = false := bne_eq_false_iff_eq.mpr c68
        clear c68
        by_cases c69 : a3.toList = a5.toList
        ·rw [if_pos c69] at H
         have c69b0 : (a3.toList == a5.toList) = true := beq_iff_eq.mpr c69
         have c69b1 : (a3.toList != a5.toList) = false := bne_eq_false_iff_eq.mpr c69
         clear c69
         by_cases c70 : (t138 != false) = true
         ·rw [if_pos c70] at H
          have c70b0 : (t138 != false) = true := c70
          (try (have c70b1 : decide (t138 = false) = false := by simpa using c70))
          (try (have c70b2 : (t138 == false) = false := by simpa using c70))
          (try (have c70b3 : ¬ (t138 = false) := by simpa using c70))
          clear c70
          cases H
         ·rw [if_neg c70] at H
          have c70b0 : (t138 != false) = false := by simpa using c70
          (try (have c70b1 : decide (t138 = false) = true := by simpa using c70))
          (try (have c70b2 : (t138 == false) = true := by simpa using c70))
          clear c70
          by_cases c71 : t138 = true
          ·subst c71
           have H1 : ((rubrickref01_Sum.f kj20 t132).bind fun t140 => ((rubrickref01_Sum.f kj20 t135).bind fun t141 => (if t140.toList = t141.toList then ((rubricklaw03_knows.f kj20).bind fun t142 => (some t142)) else (some false)))) = some true := by rw [if_pos rfl] at H; exact H
           clear H
           have H := H1
           clear H1
           replace H := Option.bind_eq_some_iff.mp H
           obtain ⟨t140, A720, H⟩ := H
           replace H : ((rubrickref01_Sum.f kj20 t135).bind fun t141 => (if t140.toList = t141.toList then ((rubricklaw03_knows.f kj20).bind fun t142 => (some t142)) else (some false))) = some true := H
           have A72 := Aside0.mk A720
           clear A720
           replace H := Option.bind_eq_some_iff.mp H
           obtain ⟨t141, A730, H⟩ := H
           replace H : (if t140.toList = t141.toList then ((rubricklaw03_knows.f kj20).bind fun t142 => (some t142)) else (some false)) = some true := H
           have A73 := Aside0.mk A730
           clear A730
           by_cases c74 : t140.toList = t141.toList
           ·rw [if_pos c74] at H
            have c74b0 : (t140.toList == t141.toList) = true := beq_iff_eq.mpr c74
            have c74b1 : (t140.toList != t141.toList) = false := bne_eq_false_iff_eq.mpr c74
            clear c74
            replace H := Option.bind_eq_some_iff.mp H
            obtain ⟨t142, A750, H⟩ := H
            replace H : (some t142) = some true := H
            have A75 := Aside0.mk A750
            clear A750
            have HT2_ := Aside0.mk (Option.some.inj H)
            clear H
            try go_wp2_with (first | ((with_reducible refine gate_callee (f := 24) rfl ?_); refine goesL_ (some 81) rfl rfl Tryd.func24 (by kernel_rfl) rfl #[.string a2, .string a3] rfl (by (try simp only [List.map_toArray, List.map_cons, List.map_nil]) <;> rfl) ?_; (with_reducible refine (seal_Node.calls kj20 a2 a3 t122 t123 _ ?side1 A63.out).mono ?_); (case side1 => exact gw_step hG_ (by repeat (first | (with_reducible first | exact HB.out | apply below_alloc | apply pw_below_drewN | apply below_drew1 | refine below_set ?_ GE117.out) | exact HB.out))); rintro e w76 ⟨rfl, hb⟩; refine ⟨_, rfl, ?_⟩; have n0_ := Aside0.mk (HCmp.rB HO_118000.out hb); have n1_ := Aside0.mk (HCmp.rB HO_118001.out hb); have n2_ := Aside0.mk (HCmp.kB BK117.out hb); have n3_ := Aside0.mk (below_step (by repeat (first | (with_reducible first | exact HB.out | apply below_alloc | apply pw_below_drewN | apply below_drew1 | refine below_set ?_ GE117.out) | exact HB.out)) hb); clear HO_118000; clear HO_118001; clear BK117; clear HB; have HO_118000 := n0_; have HO_118001 := n1_; have BK117 := n2_; have HB := n3_; clear n0_ n1_ n2_ n3_; (try clear hb)) | ((with_reducible refine gate_callee (f := 24) rfl ?_); refine goesL_ (some 87) rfl rfl Tryd.func24 (by kernel_rfl) rfl #[.string a4, .string a5] rfl (by (try simp only [List.map_toArray, List.map_cons, List.map_nil]) <;> rfl) ?_; (with_reducible refine (seal_Node.calls kj20 a4 a5 t124 t125 _ ?side1 A64.out).mono ?_); (case side1 => exact gw_step hG_ (by repeat (first | (with_reducible first | exact HB.out | apply below_alloc | apply pw_below_drewN | apply below_drew1 | refine below_set ?_ GE117.out) | exact HB.out))); rintro e w77 ⟨rfl, hb⟩; refine ⟨_, rfl, ?_⟩; have n0_ := Aside0.mk (HCmp.rB HO_118000.out hb); have n1_ := Aside0.mk (HCmp.rB HO_118001.out hb); have n2_ := Aside0.mk (HCmp.kB BK117.out hb); have n3_ := Aside0.mk (below_step (by repeat (first | (with_reducible first | exact HB.out | apply below_alloc | apply pw_below_drewN | apply below_drew1 | refine below_set ?_ GE117.out) | exact HB.out)) hb); clear HO_118000; clear HO_118001; clear BK117; clear HB; have HO_118000 := n0_; have HO_118001 := n1_; have BK117 := n2_; have HB := n3_; clear n0_ n1_ n2_ n3_; (try clear hb)) | ((with_reducible refine gate_callee (f := 16) rfl ?_); refine goesL_ (some 93) rfl rfl Tryd.func16 (by kernel_rfl) rfl #[.string a2, .string a3] rfl (by (try simp only [List.map_toArray, List.map_cons, List.map_nil]) <;> rfl) ?_; (with_reducible refine (seal_NodeBytes.calls kj20 a2 a3 t126 _ A65.out).mono ?_); rintro e w78 ⟨v127, rfl, ho0, hb⟩; refine ⟨_, rfl, ?_⟩; have n0_ := Aside0.mk (Kd.R_elder' (by (with_reducible repeat (first | apply Kd.R_alloc | apply Kd.R_drewN | apply Kd.R_drew)); exact HO_118000.out) (Kd.R_base ho0) hb); have n1_ := Aside0.mk (Kd.R_elder' (by (with_reducible repeat (first | apply Kd.R_alloc | apply Kd.R_drewN | apply Kd.R_drew)); exact HO_118001.out) (Kd.R_base ho0) hb); have n2_ := Aside0.mk (Kd.R_lower (Kd.R_new' (Kd.R_new' ho0 (Kd.R_lt (by (with_reducible repeat (first | apply Kd.R_alloc | apply Kd.R_drewN | apply Kd.R_drew)); exact HO_118000.out))) (Kd.R_lt (by (with_reducible repeat (first | apply Kd.R_alloc | apply Kd.R_drewN | apply Kd.R_drew)); exact HO_118001.out))) (below_size (by repeat (first | (with_reducible first | exact HB.out | apply below_alloc | apply pw_below_drewN | apply below_drew1 | refine below_set ?_ GE117.out) | exact HB.out)))); have n3_ := Aside0.mk (HCmp.kB BK117.out hb); have n4_ := Aside0.mk (below_step (by repeat (first | (with_reducible first | exact HB.out | apply below_alloc | apply pw_below_drewN | apply below_drew1 | refine below_set ?_ GE117.out) | exact HB.out)) hb); clear HO_118000; clear HO_118001; clear BK117; clear HB; have HO_118000 := n0_; have HO_118001 := n1_; have HO128 := n2_; have BK117 := n3_; have HB := n4_; clear n0_ n1_ n2_ n3_ n4_; (try clear hb); (try clear ho0)) | ((with_reducible refine gate_callee (f := 16) rfl ?_); refine goesL_ (some 96) rfl rfl Tryd.func16 (by kernel_rfl) rfl #[.string a4, .string a5] rfl (by (try simp only [List.map_toArray, List.map_cons, List.map_nil]) <;> rfl) ?_; (with_reducible refine (seal_NodeBytes.calls kj20 a4 a5 t129 _ A66.out).mono ?_); rintro e w79 ⟨v130, rfl, ho0, hb⟩; refine ⟨_, rfl, ?_⟩; have n0_ := Aside0.mk (Kd.R_elder' (by (with_reducible repeat (first | apply Kd.R_alloc | apply Kd.R_drewN | apply Kd.R_drew)); exact HO_118000.out) (Kd.R_base ho0) hb); have n1_ := Aside0.mk (Kd.R_elder' (by (with_reducible repeat (first | apply Kd.R_alloc | apply Kd.R_drewN | apply Kd.R_drew)); exact HO_118001.out) (Kd.R_base ho0) hb); have n2_ := Aside0.mk (Kd.R_elder' (by (with_reducible repeat (first | apply Kd.R_alloc | apply Kd.R_drewN | apply Kd.R_drew)); exact HO128.out) (Kd.R_base ho0) hb); have n3_ := Aside0.mk (Kd.R_lower (Kd.R_new' (Kd.R_new' (Kd.R_new' ho0 (Kd.R_lt (by (with_reducible repeat (first | apply Kd.R_alloc | apply Kd.R_drewN | apply Kd.R_drew)); exact HO_118000.out))) (Kd.R_lt (by (with_reducible repeat (first | apply Kd.R_alloc | apply Kd.R_drewN | apply Kd.R_drew)); exact HO_118001.out))) (Kd.R_lt (by (with_reducible repeat (first | apply Kd.R_alloc | apply Kd.R_drewN | apply Kd.R_drew)); exact HO128.out))) (below_size (by repeat (first | (with_reducible first | exact HB.out | apply below_alloc | apply pw_below_drewN | apply below_drew1 | refine below_set ?_ GE117.out) | exact HB.out)))); have n4_ := Aside0.mk (HCmp.kB BK117.out hb); have n5_ := Aside0.mk (below_step (by repeat (first | (with_reducible first | exact HB.out | apply below_alloc | apply pw_below_drewN | apply below_drew1 | refine below_set ?_ GE117.out) | exact HB.out)) hb); clear HO_118000; clear HO_118001; clear HO128; clear BK117; clear HB; have HO_118000 := n0_; have HO_118001 := n1_; have HO128 := n2_; have HO131 := n3_; have BK117 := n4_; have HB := n5_; clear n0_ n1_ n2_ n3_ n4_ n5_; (try clear hb); (try clear ho0); obtain ⟨Ao80, co80, eo80⟩ := Kd.R_slice HO128.out; subst eo80; obtain ⟨Ao81, co81, eo81⟩ := Kd.R_slice HO131.out; subst eo81) | ((with_reducible refine gate_callee (f := 36) rfl ?_); refine goesL_ (some 97) rfl rfl Tryd.func36 (by kernel_rfl) rfl #[.slice Ao80 t126.length co80, .slice Ao81 t129.length co81] rfl (by (try simp only [List.map_toArray, List.map_cons, List.map_nil]) <;> rfl) ?_; (with_reducible refine (seal_Between.calls _ _ t126 _ _ t129 t132 t135 true _ ?side5 ?side1 ?side2 ?side3 ?side4 A67.out).mono ?_); (case side1 => repeat (first | exact (Kd.R_reads' HO128.out).2.2 | (with_reducible refine Kd.C_alloc ?_ _) | (with_reducible refine Kd.C_drewN ?_ _) | (with_reducible refine Kd.C_drew ?_))); (case side2 => exact (Kd.R_reads' HO128.out).2.1); (case side3 => repeat (first | exact (Kd.R_reads' HO131.out).2.2 | (with_reducible refine Kd.C_alloc ?_ _) | (with_reducible refine Kd.C_drewN ?_ _) | (with_reducible refine Kd.C_drew ?_))); (case side4 => exact (Kd.R_reads' HO131.out).2.1); (case side5 => exact gw_step hG_ (by repeat (first | (with_reducible first | exact HB.out | apply below_alloc | apply pw_below_drewN | apply below_drew1 | refine below_set ?_ GE117.out) | exact HB.out))); rintro e w82 ⟨v133, v136, rfl, ho0, ho1, hb⟩; refine ⟨_, rfl, ?_⟩; have n0_ := Aside0.mk (Kd.R_mono (Kd.R_told (Kd.R_told (Kd.R_old (by (with_reducible repeat (first | apply Kd.R_alloc | apply Kd.R_drewN | apply Kd.R_drew)); exact HO_118000.out) hb) (Kd.R_base ho0)) (Kd.R_base ho1)) (fun _ h_ => h_.1)); have n1_ := Aside0.mk (Kd.R_mono (Kd.R_told (Kd.R_told (Kd.R_old (by (with_reducible repeat (first | apply Kd.R_alloc | apply Kd.R_drewN | apply Kd.R_drew)); exact HO_118001.out) hb) (Kd.R_base ho0)) (Kd.R_base ho1)) (fun _ h_ => h_.1)); have n2_ := Aside0.mk (Kd.R_mono (Kd.R_told (Kd.R_told (Kd.R_old (by (with_reducible repeat (first | apply Kd.R_alloc | apply Kd.R_drewN | apply Kd.R_drew)); exact HO128.out) hb) (Kd.R_base ho0)) (Kd.R_base ho1)) (fun _ h_ => h_.1)); have n3_ := Aside0.mk (Kd.R_mono (Kd.R_told (Kd.R_told (Kd.R_old (by (with_reducible repeat (first | apply Kd.R_alloc | apply Kd.R_drewN | apply Kd.R_drew)); exact HO131.out) hb) (Kd.R_base ho0)) (Kd.R_base ho1)) (fun _ h_ => h_.1)); have n4_ := Aside0.mk (Kd.R_lower (Kd.R_new' (Kd.R_new' (Kd.R_new' (Kd.R_new' ho0 (Kd.R_lt (by (with_reducible repeat (first | apply Kd.R_alloc | apply Kd.R_drewN | apply Kd.R_drew)); exact HO_118000.out))) (Kd.R_lt (by (with_reducible repeat (first | apply Kd.R_alloc | apply Kd.R_drewN | apply Kd.R_drew)); exact HO_118001.out))) (Kd.R_lt (by (with_reducible repeat (first | apply Kd.R_alloc | apply Kd.R_drewN | apply Kd.R_drew)); exact HO128.out))) (Kd.R_lt (by (with_reducible repeat (first | apply Kd.R_alloc | apply Kd.R_drewN | apply Kd.R_drew)); exact HO131.out))) (below_size (by repeat (first | (with_reducible first | exact HB.out | apply below_alloc | apply pw_below_drewN | apply below_drew1 | refine below_set ?_ GE117.out) | exact HB.out)))); have n5_ := Aside0.mk (Kd.R_lower (Kd.R_new' (Kd.R_new' (Kd.R_new' (Kd.R_new' ho1 (Kd.R_lt (by (with_reducible repeat (first | apply Kd.R_alloc | apply Kd.R_drewN | apply Kd.R_drew)); exact HO_118000.out))) (Kd.R_lt (by (with_reducible repeat (first | apply Kd.R_alloc | apply Kd.R_drewN | apply Kd.R_drew)); exact HO_118001.out))) (Kd.R_lt (by (with_reducible repeat (first | apply Kd.R_alloc | apply Kd.R_drewN | apply Kd.R_drew)); exact HO128.out))) (Kd.R_lt (by (with_reducible repeat (first | apply Kd.R_alloc | apply Kd.R_drewN | apply Kd.R_drew)); exact HO131.out))) (below_size (by repeat (first | (with_reducible first | exact HB.out | apply below_alloc | apply pw_below_drewN | apply below_drew1 | refine below_set ?_ GE117.out) | exact HB.out)))); have n6_ := Aside0.mk (HCmp.kB BK117.out hb); have n7_ := Aside0.mk (below_step (by repeat (first | (with_reducible first | exact HB.out | apply below_alloc | apply pw_below_drewN | apply below_drew1 | refine below_set ?_ GE117.out) | exact HB.out)) hb); clear HO_118000; clear HO_118001; clear HO128; clear HO131; clear BK117; clear HB; have HO_118000 := n0_; have HO_118001 := n1_; have HO128 := n2_; have HO131 := n3_; have HO134 := n4_; have HO137 := n5_; have BK117 := n6_; have HB := n7_; clear n0_ n1_ n2_ n3_ n4_ n5_ n6_ n7_; (try clear hb); (try clear ho0); (try clear ho1)) | ((with_reducible refine gate_dst (N := 19) rfl ?_); (try (refine gate_guard (by rfl) ?_; dsimp only)); refine box_event ?hg (N := 19) ?hd (cs := #[.slice none 0 0, .slice none 0 0]) (t := 53) ?hr ?_; (case hd => rfl); (case hg => rfl); (case hr => first | (go_simp; done) | (go_simp; rfl)); intro gb139 hg w83 hbox hb; have n0_ := Aside0.mk (HCmp.rB HO_118000.out hb); have n1_ := Aside0.mk (HCmp.rB HO_118001.out hb); have n2_ := Aside0.mk (HCmp.rB HO128.out hb); have n3_ := Aside0.mk (HCmp.rB HO131.out hb); have n4_ := Aside0.mk (HCmp.rB HO134.out hb); have n5_ := Aside0.mk (HCmp.rB HO137.out hb); have n6_ := Aside0.mk (HCmp.kB BK117.out hb); have n7_ := Aside0.mk (below_step (by repeat (first | (with_reducible first | exact HB.out | apply below_alloc | apply pw_below_drewN | apply below_drew1 | refine below_set ?_ GE117.out) | exact HB.out)) hb); have n8_ := Aside0.mk (hbox); have n9_ := Aside0.mk ((by rw [hg]; exact (below_size (by repeat (first | (with_reducible first | exact HB.out | apply below_alloc | apply pw_below_drewN | apply below_drew1 | refine below_set ?_ GE117.out) | exact HB.out))) : w.heap.size ≤ gb139)); have n10_ := Aside0.mk ((by rw [hg]; exact (below_size (by repeat (first | (with_reducible first | exact HB.out | apply below_alloc | apply pw_below_drewN | apply below_drew1 | refine below_set ?_ GE117.out) | exact HB.out))) : w.heap.size ≤ gb139)); have n11_ := Aside0.mk ((by rw [hg]; exact Nat.ne_of_lt (blk_lt (g := gb117) (o := .cells #[.slice Ao28 t110.length co28, .slice Ao30 t113.length co30] 53 (0, 0)) (by (with_reducible repeat (first | refine blk_drewN ?_ _ | refine blk_drew ?_ | refine blk_alloc ?_ _)); exact BK117.out)) : gb117 ≠ gb139)); have n12_ := Aside0.mk ((by rw [hg]; exact Nat.ne_of_gt (blk_lt (g := gb117) (o := .cells #[.slice Ao28 t110.length co28, .slice Ao30 t113.length co30] 53 (0, 0)) (by (with_reducible repeat (first | refine blk_drewN ?_ _ | refine blk_drew ?_ | refine blk_alloc ?_ _)); exact BK117.out)) : gb139 ≠ gb117)); clear HO_118000; clear HO_118001; clear HO128; clear HO131; clear HO134; clear HO137; clear BK117; clear HB; have HO_118000 := n0_; have HO_118001 := n1_; have HO128 := n2_; have HO131 := n3_; have HO134 := n4_; have HO137 := n5_; have BK117 := n6_; have HB := n7_; have BK139 := n8_; have GW139 := n9_; have GE139 := n10_; have NB117_139 := n11_; have NB139_117 := n12_; clear n0_ n1_ n2_ n3_ n4_ n5_ n6_ n7_ n8_ n9_ n10_ n11_ n12_; clear hb hbox hg; obtain ⟨Ao84, co84, eo84⟩ := Kd.R_slice HO134.out; subst eo84; have hnb85 := NB139_117.out; have hnc85 := NB117_139.out; have hcz86_0 : w83.cell? ⟨gb139, 0, none⟩ = some (.slice none 0 0) := (blk_cell BK139.out 0).trans rfl; have hcz86_1 : w83.cell? ⟨gb139, 1, none⟩ = some (.slice none 0 0) := (blk_cell BK139.out 1).trans rfl; have hfz86_0 := blk_frozen BK139.out 0; have hfz86_1 := blk_frozen BK139.out 1; obtain ⟨Ao87, co87, eo87⟩ := Kd.R_slice HO137.out; subst eo87))
            have n0_ : Aside0 (Kd.R (Kd.int .u8) 5 ((w83.setCell ⟨gb139, 0, none⟩ (.slice Ao84 t132.length co84)).setCell ⟨gb139, 1, none⟩ (.slice Ao87 t135.length co87)) w.heap.size (fun k_ => some k_ ≠ (.slice Ao30 t113.length co30 : Value).ownBlock ∧ some k_ ≠ (.slice Ao80 t126.length co80 : Value).ownBlock ∧ some k_ ≠ (.slice Ao81 t129.length co81 : Value).ownBlock ∧ some k_ ≠ (.slice Ao84 t132.length co84 : Value).ownBlock ∧ some k_ ≠ (.slice Ao87 t135.length co87 : Value).ownBlock) (.slice Ao28 t110.length co28) t110) := ⟨by (with_reducible repeat (first | apply Kd.R_alloc | apply Kd.R_drewN | apply Kd.R_drew)); exact Kd.R_mono (Kd.R_far (p := ⟨gb139, 1, none⟩) (Kd.R_far (p := ⟨gb139, 0, none⟩) (Kd.R_types HO_118000.out BK139.out (by decide)) (fun _ hk => hk.2) (.slice Ao84 t132.length co84)) (fun _ hk => hk.2) (.slice Ao87 t135.length co87)) (fun _ hk => ⟨hk.1.1.1.1.1, ⟨hk.1.1.1.1.2, ⟨hk.1.1.1.2, ⟨hk.1.1.2, hk.1.2⟩⟩⟩⟩)⟩
            have n1_ : Aside0 (Kd.R (Kd.int .u8) 5 ((w83.setCell ⟨gb139, 0, none⟩ (.slice Ao84 t132.length co84)).setCell ⟨gb139, 1, none⟩ (.slice Ao87 t135.length co87)) w.heap.size (fun k_ => some k_ ≠ (.slice Ao28 t110.length co28 : Value).ownBlock ∧ some k_ ≠ (.slice Ao80 t126.length co80 : Value).ownBlock ∧ some k_ ≠ (.slice Ao81 t129.length co81 : Value).ownBlock ∧ some k_ ≠ (.slice Ao84 t132.length co84 : Value).ownBlock ∧ some k_ ≠ (.slice Ao87 t135.length co87 : Value).ownBlock) (.slice Ao30 t113.length co30) t113) := ⟨by (with_reducible repeat (first | apply Kd.R_alloc | apply Kd.R_drewN | apply Kd.R_drew)); exact Kd.R_mono (Kd.R_far (p := ⟨gb139, 1, none⟩) (Kd.R_far (p := ⟨gb139, 0, none⟩) (Kd.R_types HO_118001.out BK139.out (by decide)) (fun _ hk => hk.2) (.slice Ao84 t132.length co84)) (fun _ hk => hk.2) (.slice Ao87 t135.length co87)) (fun _ hk => ⟨hk.1.1.1.1.1, ⟨hk.1.1.1.1.2, ⟨hk.1.1.1.2, ⟨hk.1.1.2, hk.1.2⟩⟩⟩⟩)⟩
            have n2_ : Aside0 (Kd.R (Kd.int .u8) 5 ((w83.setCell ⟨gb139, 0, none⟩ (.slice Ao84 t132.length co84)).setCell ⟨gb139, 1, none⟩ (.slice Ao87 t135.length co87)) w.heap.size (fun k_ => some k_ ≠ (.slice Ao28 t110.length co28 : Value).ownBlock ∧ some k_ ≠ (.slice Ao30 t113.length co30 : Value).ownBlock ∧ some k_ ≠ (.slice Ao81 t129.length co81 : Value).ownBlock ∧ some k_ ≠ (.slice Ao84 t132.length co84 : Value).ownBlock ∧ some k_ ≠ (.slice Ao87 t135.length co87 : Value).ownBlock) (.slice Ao80 t126.length co80) t126) := ⟨by (with_reducible repeat (first | apply Kd.R_alloc | apply Kd.R_drewN | apply Kd.R_drew)); exact Kd.R_mono (Kd.R_far (p := ⟨gb139, 1, none⟩) (Kd.R_far (p := ⟨gb139, 0, none⟩) (Kd.R_types HO128.out BK139.out (by decide)) (fun _ hk => hk.2) (.slice Ao84 t132.length co84)) (fun _ hk => hk.2) (.slice Ao87 t135.length co87)) (fun _ hk => ⟨hk.1.1.1.1.1.2, ⟨hk.1.1.1.1.2, ⟨hk.1.1.1.2, ⟨hk.1.1.2, hk.1.2⟩⟩⟩⟩)⟩
            have n3_ : Aside0 (Kd.R (Kd.int .u8) 5 ((w83.setCell ⟨gb139, 0, none⟩ (.slice Ao84 t132.length co84)).setCell ⟨gb139, 1, none⟩ (.slice Ao87 t135.length co87)) w.heap.size (fun k_ => some k_ ≠ (.slice Ao28 t110.length co28 : Value).ownBlock ∧ some k_ ≠ (.slice Ao30 t113.length co30 : Value).ownBlock ∧ some k_ ≠ (.slice Ao80 t126.length co80 : Value).ownBlock ∧ some k_ ≠ (.slice Ao84 t132.length co84 : Value).ownBlock ∧ some k_ ≠ (.slice Ao87 t135.length co87 : Value).ownBlock) (.slice Ao81 t129.length co81) t129) := ⟨by (with_reducible repeat (first | apply Kd.R_alloc | apply Kd.R_drewN | apply Kd.R_drew)); exact Kd.R_mono (Kd.R_far (p := ⟨gb139, 1, none⟩) (Kd.R_far (p := ⟨gb139, 0, none⟩) (Kd.R_types HO131.out BK139.out (by decide)) (fun _ hk => hk.2) (.slice Ao84 t132.length co84)) (fun _ hk => hk.2) (.slice Ao87 t135.length co87)) (fun _ hk => ⟨hk.1.1.1.1.1.2, ⟨hk.1.1.1.1.2, ⟨hk.1.1.1.2, ⟨hk.1.1.2, hk.1.2⟩⟩⟩⟩)⟩
            have n4_ : Aside0 (Kd.R (Kd.int .u8) 5 ((w83.setCell ⟨gb139, 0, none⟩ (.slice Ao84 t132.length co84)).setCell ⟨gb139, 1, none⟩ (.slice Ao87 t135.length co87)) w.heap.size (fun k_ => some k_ ≠ (.slice Ao28 t110.length co28 : Value).ownBlock ∧ some k_ ≠ (.slice Ao30 t113.length co30 : Value).ownBlock ∧ some k_ ≠ (.slice Ao80 t126.length co80 : Value).ownBlock ∧ some k_ ≠ (.slice Ao81 t129.length co81 : Value).ownBlock ∧ some k_ ≠ (.slice Ao87 t135.length co87 : Value).ownBlock) (.slice Ao84 t132.length co84) t132) := ⟨by (with_reducible repeat (first | apply Kd.R_alloc | apply Kd.R_drewN | apply Kd.R_drew)); exact Kd.R_mono (Kd.R_far (p := ⟨gb139, 1, none⟩) (Kd.R_far (p := ⟨gb139, 0, none⟩) (Kd.R_types HO134.out BK139.out (by decide)) (fun _ hk => hk.2) (.slice Ao84 t132.length co84)) (fun _ hk => hk.2) (.slice Ao87 t135.length co87)) (fun _ hk => ⟨hk.1.1.1.1.2, ⟨hk.1.1.1.2, ⟨hk.1.1.2, ⟨hk.1.2, hk.1.1.1.1.1⟩⟩⟩⟩)⟩
            have n5_ : Aside0 (Kd.R (Kd.int .u8) 5 ((w83.setCell ⟨gb139, 0, none⟩ (.slice Ao84 t132.length co84)).setCell ⟨gb139, 1, none⟩ (.slice Ao87 t135.length co87)) w.heap.size (fun k_ => some k_ ≠ (.slice Ao28 t110.length co28 : Value).ownBlock ∧ some k_ ≠ (.slice Ao30 t113.length co30 : Value).ownBlock ∧ some k_ ≠ (.slice Ao80 t126.length co80 : Value).ownBlock ∧ some k_ ≠ (.slice Ao81 t129.length co81 : Value).ownBlock ∧ some k_ ≠ (.slice Ao84 t132.length co84 : Value).ownBlock) (.slice Ao87 t135.length co87) t135) := ⟨by (with_reducible repeat (first | apply Kd.R_alloc | apply Kd.R_drewN | apply Kd.R_drew)); exact Kd.R_mono (Kd.R_far (p := ⟨gb139, 1, none⟩) (Kd.R_far (p := ⟨gb139, 0, none⟩) (Kd.R_types HO137.out BK139.out (by decide)) (fun _ hk => hk.2) (.slice Ao84 t132.length co84)) (fun _ hk => hk.2) (.slice Ao87 t135.length co87)) (fun _ hk => ⟨hk.1.1.1.1.2, ⟨hk.1.1.1.2, ⟨hk.1.1.2, ⟨hk.1.2, hk.1.1.1.1.1⟩⟩⟩⟩)⟩
            have n6_ : Aside0 (((w83.setCell ⟨gb139, 0, none⟩ (.slice Ao84 t132.length co84)).setCell ⟨gb139, 1, none⟩ (.slice Ao87 t135.length co87)).heap[gb117]? = some (.cells #[.slice Ao28 t110.length co28, .slice Ao30 t113.length co30] 53 (0, 0))) := ⟨by (with_reducible repeat (first | refine blk_drewN ?_ _ | refine blk_drew ?_ | refine blk_alloc ?_ _)); refine blk_far ?_ NB117_139.out _; (with_reducible repeat (first | refine blk_drewN ?_ _ | refine blk_drew ?_ | refine blk_alloc ?_ _)); refine blk_far ?_ NB117_139.out _; (with_reducible repeat (first | refine blk_drewN ?_ _ | refine blk_drew ?_ | refine blk_alloc ?_ _)); exact BK117.out⟩
            have n7_ : Aside0 (((w83.setCell ⟨gb139, 0, none⟩ (.slice Ao84 t132.length co84)).setCell ⟨gb139, 1, none⟩ (.slice Ao87 t135.length co87)).heap[gb139]? = some (.cells #[.slice Ao84 t132.length co84, .slice Ao87 t135.length co87] 53 (0, 0))) := ⟨by (with_reducible repeat (first | refine blk_drewN ?_ _ | refine blk_drew ?_ | refine blk_alloc ?_ _)); refine blk_put (cs := #[.slice Ao84 t132.length co84, .slice none 0 0]) ?_ 1 _ rfl; (with_reducible repeat (first | refine blk_drewN ?_ _ | refine blk_drew ?_ | refine blk_alloc ?_ _)); refine blk_put (cs := #[.slice none 0 0, .slice none 0 0]) ?_ 0 _ rfl; (with_reducible repeat (first | refine blk_drewN ?_ _ | refine blk_drew ?_ | refine blk_alloc ?_ _)); exact BK139.out⟩
            have n8_ : Aside0 (Below w.heap.size w ((w83.setCell ⟨gb139, 0, none⟩ (.slice Ao84 t132.length co84)).setCell ⟨gb139, 1, none⟩ (.slice Ao87 t135.length co87))) := ⟨by repeat (first | (with_reducible first | exact HB.out | apply below_alloc | apply pw_below_drewN | apply below_drew1 | refine below_set ?_ GE117.out | refine below_set ?_ GE139.out) | exact HB.out)⟩
            (try clear HO_118000)
            (try clear HO_118001)
            (try clear HO128)
            (try clear HO131)
            (try clear HO134)
            (try clear HO137)
            (try clear BK117)
            (try clear BK139)
            (try clear HB)
            generalize ((w83.setCell ⟨gb139, 0, none⟩ (.slice Ao84 t132.length co84)).setCell ⟨gb139, 1, none⟩ (.slice Ao87 t135.length co87)) = w88 at n0_ n1_ n2_ n3_ n4_ n5_ n6_ n7_ n8_ ⊢
            have HO_118000 := n0_
            have HO_118001 := n1_
            have HO128 := n2_
            have HO131 := n3_
            have HO134 := n4_
            have HO137 := n5_
            have BK117 := n6_
            have BK139 := n7_
            have HB := n8_
            clear n0_ n1_ n2_ n3_ n4_ n5_ n6_ n7_ n8_
            have n0_ := Aside0.mk (Kd.R_drew HO_118000.out)
            have n1_ := Aside0.mk (Kd.R_drew HO_118001.out)
            have n2_ := Aside0.mk (Kd.R_drew HO128.out)
            have n3_ := Aside0.mk (Kd.R_drew HO131.out)
            have n4_ := Aside0.mk (Kd.R_drew HO134.out)
            have n5_ := Aside0.mk (Kd.R_drew HO137.out)
            have n6_ := Aside0.mk (blk_drew BK117.out)
            have n7_ := Aside0.mk (blk_drew BK139.out)
            have n8_ := Aside0.mk (below_drew1 HB.out)
            clear HO_118000
            clear HO_118001
            clear HO128
            clear HO131
            clear HO134
            clear HO137
            clear BK117
            clear BK139
            clear HB
            have HO_118000 := n0_
            have HO_118001 := n1_
            have HO128 := n2_
            have HO131 := n3_
            have HO134 := n4_
            have HO137 := n5_
            have BK117 := n6_
            have BK139 := n7_
            have HB := n8_
            clear n0_ n1_ n2_ n3_ n4_ n5_ n6_ n7_ n8_
            refine start_ (n := 27) (S := fun w' => w'.cell? ⟨gb139, 0, none⟩ = some (.slice Ao84 t132.length co84) ∧ w'.cell? ⟨gb139, 1, none⟩ = some (.slice Ao87 t135.length co87)) (ds := []) #[false, false, false, false, false, false, false, false, false, false, false, false, false, false, false, false, false, false, false, false, false, false, false, false, false, false, false] (by kernel_rfl) rfl rfl ⟨(blk_cell BK139.out 0).trans rfl, (blk_cell BK139.out 1).trans rfl⟩ (fun hHeld => ?_); refine with_tabW rubricklaw03_SealTwo.tab9 rubricklaw03_SealTwo.bits9 (fun HT_ HW_ => ?_)
            generalize w88.drew = w89 at HO_118000 HO_118001 HO128 HO131 HO134 HO137 BK117 BK139 HB hHeld ⊢
            refine HBulk.bulkT (fuel := 17) HT_.out HW_.out [(0, some 100, false), (1, some 101, false), (2, some 102, false), (3, some 103, false), (4, some 104, false), (5, some 105, false), (6, some 106, false), (7, some 107, false), (8, some 108, false), (9, some 109, false)] #[true, true, true, true, true, true, true, true, true, true, false, false, false, false, false, false, false, false, false, false, false, false, false, false, false, false, false] (a' := ?_) (by kernel_rfl) rfl hHeld ?_ ?_
            rotate_left
            ·repeat
              refine HBulk.RunsM.cons (v := ?_) (a1 := ?_) rfl rfl (fun _ _ _ h => h) (by rfl) ?_ ?_ ?_
              rotate_left
              ·intro w' hS_
               go_simp
               with_reducible rfl
              rotate_left
              ·simp only [Act.put, List.setIfInBounds_toArray, List.set_cons_zero, List.set_cons_succ, i64_w, i32_w]
               rfl
             exact HBulk.RunsM.nil
            refine pure_ (i := 10) (N := some 110) (v := undef) (a' := ?_) #[true, true, true, true, true, true, true, true, true, true, true, false, false, false, false, false, false, false, false, false, false, false, false, false, false, false, false] rfl rfl (any_of HT_.out (by kernel_rfl)) (fun _ _ _ h => h) (Or.inr ⟨by rfl, rfl⟩) ?_ ?_
            rotate_left
            ·simp only [Act.put, List.setIfInBounds_toArray, List.set_cons_zero, List.set_cons_succ, i64_w, i32_w]
             rfl
            refine pure_ (i := 11) (N := some 111) (v := undef) (a' := ?_) #[true, true, true, true, true, true, true, true, true, true, true, true, false, false, false, false, false, false, false, false, false, false, false, false, false, false, false] rfl rfl (any_of HT_.out (by kernel_rfl)) (fun _ _ _ h => h) (Or.inr ⟨by rfl, rfl⟩) ?_ ?_
            rotate_left
            ·simp only [Act.put, List.setIfInBounds_toArray, List.set_cons_zero, List.set_cons_succ, i64_w, i32_w]
             rfl
            refine pure_ (i := 12) (N := some 112) (v := undef) (a' := ?_) #[true, true, true, true, true, true, true, true, true, true, true, true, true, false, false, false, false, false, false, false, false, false, false, false, false, false, false] rfl rfl (any_of HT_.out (by kernel_rfl)) (fun _ _ _ h => h) (Or.inr ⟨by rfl, rfl⟩) ?_ ?_
            rotate_left
            ·simp only [Act.put, List.setIfInBounds_toArray, List.set_cons_zero, List.set_cons_succ, i64_w, i32_w]
             rfl
            refine HBulk.bulkT (fuel := 5) HT_.out HW_.out [(13, some 113, false), (14, some 114, false), (15, some 115, false), (16, some 116, false), (17, some 117, false), (18, some 118, false), (21, some 121, false), (19, some 119, true), (22, some 122, true)] #[true, true, true, true, true, true, true, true, true, true, true, true, true, true, true, true, true, true, true, true, false, true, true, false, false, false, false] (a' := ?_) (by kernel_rfl) rfl hHeld ?_ ?_
            rotate_left
            ·repeat
              refine HBulk.RunsM.cons (v := ?_) (a1 := ?_) rfl rfl (fun _ _ _ h => h) (by rfl) ?_ ?_ ?_
              rotate_left
              ·intro w' hS_; (try (obtain ⟨s0, s1⟩ := hS_ rfl))
               go_simp
               with_reducible rfl
              rotate_left
              ·simp only [Act.put, List.setIfInBounds_toArray, List.set_cons_zero, List.set_cons_succ, i64_w, i32_w]
               rfl
             exact HBulk.RunsM.nil
            refine one_ (i := 20) (N := some 120) #[true, true, true, true, true, true, true, true, true, true, true, true, true, true, true, true, true, true, true, true, true, true, true, false, false, false, false] rfl rfl (one_of HT_.out (by kernel_rfl)) (by decide) (fun K hK => ?_)
            refine goes_ Tryd.func28 (by kernel_rfl) rfl #[.slice Ao84 t132.length co84] (by rfl) rfl rfl (by (try simp only [List.map_toArray, List.map_cons, List.map_nil]) <;> rfl) ?_
            with_reducible refine (rubrickref01_Sum.calls kj20 _ _ t132 t140 _ ?side1 ?side2 A72.out).mono ?_
            (case side1 => repeat (first | exact (Kd.R_reads' HO134.out).2.2 | (with_reducible refine Kd.C_alloc ?_ _) | (with_reducible refine Kd.C_drewN ?_ _) | (with_reducible refine Kd.C_drew ?_)))
            (case side2 => exact (Kd.R_reads' HO134.out).2.1)
            rintro e w90 ⟨rfl, hb⟩
            refine ⟨_, rfl, ?_⟩
            have n0_ := Aside0.mk (HCmp.rB HO_118000.out hb)
            have n1_ := Aside0.mk (HCmp.rB HO_118001.out hb)
            have n2_ := Aside0.mk (HCmp.rB HO128.out hb)
            have n3_ := Aside0.mk (HCmp.rB HO131.out hb)
            have n4_ := Aside0.mk (HCmp.rB HO134.out hb)
            have n5_ := Aside0.mk (HCmp.rB HO137.out hb)
            have n6_ := Aside0.mk (HCmp.kB BK117.out hb)
            have n7_ := Aside0.mk (HCmp.kB BK139.out hb)
            have n8_ := Aside0.mk (below_step (by repeat (first | (with_reducible first | exact HB.out | apply below_alloc | apply pw_below_drewN | apply below_drew1 | refine below_set ?_ GE117.out | refine below_set ?_ GE139.out) | exact HB.out)) hb)
            clear HO_118000
            clear HO_118001
            clear HO128
            clear HO131
            clear HO134
            clear HO137
            clear BK117
            clear BK139
            clear HB
            have HO_118000 := n0_
            have HO_118001 := n1_
            have HO128 := n2_
            have HO131 := n3_
            have HO134 := n4_
            have HO137 := n5_
            have BK117 := n6_
            have BK139 := n7_
            have HB := n8_
            clear n0_ n1_ n2_ n3_ n4_ n5_ n6_ n7_ n8_
            (try clear hb)
            (try clear hb2)
            (try clear hk)
            (try clear hi)
            refine hK.out _ _ ⟨(blk_cell BK139.out 0).trans rfl, (blk_cell BK139.out 1).trans rfl⟩ (fun hHeld => ?_)
            clear hK K
            refine norm_ (a' := ?_) ?_ ?_
            rotate_left
            ·show Act.put _ (some 120) _ = _
             simp only [Act.put, List.setIfInBounds_toArray, List.set_cons_zero, List.set_cons_succ, i64_w, i32_w]
             rfl
            refine one_ (i := 23) (N := some 123) #[true, true, true, true, true, true, true, true, true, true, true, true, true, true, true, true, true, true, true, true, true, true, true, true, false, false, false] rfl rfl (one_of HT_.out (by kernel_rfl)) (by decide) (fun K hK => ?_)
            refine goes_ Tryd.func28 (by kernel_rfl) rfl #[.slice Ao87 t135.length co87] (by rfl) rfl rfl (by (try simp only [List.map_toArray, List.map_cons, List.map_nil]) <;> rfl) ?_
            with_reducible refine (rubrickref01_Sum.calls kj20 _ _ t135 t141 _ ?side1 ?side2 A73.out).mono ?_
            (case side1 => repeat (first | exact (Kd.R_reads' HO137.out).2.2 | (with_reducible refine Kd.C_alloc ?_ _) | (with_reducible refine Kd.C_drewN ?_ _) | (with_reducible refine Kd.C_drew ?_)))
            (case side2 => exact (Kd.R_reads' HO137.out).2.1)
            rintro e w91 ⟨rfl, hb⟩
            refine ⟨_, rfl, ?_⟩
            have n0_ := Aside0.mk (HCmp.rB HO_118000.out hb)
            have n1_ := Aside0.mk (HCmp.rB HO_118001.out hb)
            have n2_ := Aside0.mk (HCmp.rB HO128.out hb)
            have n3_ := Aside0.mk (HCmp.rB HO131.out hb)
            have n4_ := Aside0.mk (HCmp.rB HO134.out hb)
            have n5_ := Aside0.mk (HCmp.rB HO137.out hb)
            have n6_ := Aside0.mk (HCmp.kB BK117.out hb)
            have n7_ := Aside0.mk (HCmp.kB BK139.out hb)
            have n8_ := Aside0.mk (below_step (by repeat (first | (with_reducible first | exact HB.out | apply below_alloc | apply pw_below_drewN | apply below_drew1 | refine below_set ?_ GE117.out | refine below_set ?_ GE139.out) | exact HB.out)) hb)
            clear HO_118000
            clear HO_118001
            clear HO128
            clear HO131
            clear HO134
            clear HO137
            clear BK117
            clear BK139
            clear HB
            have HO_118000 := n0_
            have HO_118001 := n1_
            have HO128 := n2_
            have HO131 := n3_
            have HO134 := n4_
            have HO137 := n5_
            have BK117 := n6_
            have BK139 := n7_
            have HB := n8_
            clear n0_ n1_ n2_ n3_ n4_ n5_ n6_ n7_ n8_
            (try clear hb)
            (try clear hb2)
            (try clear hk)
            (try clear hi)
            refine hK.out _ _ ⟨(blk_cell BK139.out 0).trans rfl, (blk_cell BK139.out 1).trans rfl⟩ (fun hHeld => ?_)
            clear hK K
            refine norm_ (a' := ?_) ?_ ?_
            rotate_left
            ·show Act.put _ (some 123) _ = _
             simp only [Act.put, List.setIfInBounds_toArray, List.set_cons_zero, List.set_cons_succ, i64_w, i32_w]
             rfl
            refine HBulk.bulkT (fuel := 0) HT_.out HW_.out [(24, some 124, false), (25, some 125, false), (26, some 126, false)] #[true, true, true, true, true, true, true, true, true, true, true, true, true, true, true, true, true, true, true, true, true, true, true, true, true, true, true] (a' := ?_) (by kernel_rfl) rfl hHeld ?_ ?_
            rotate_left
            ·repeat
              refine HBulk.RunsM.cons (v := ?_) (a1 := ?_) rfl rfl (fun _ _ _ h => h) (by rfl) ?_ ?_ ?_
              rotate_left
              ·intro w' hS_
               go_simp
               with_reducible rfl
              rotate_left
              ·simp only [Act.put, List.setIfInBounds_toArray, List.set_cons_zero, List.set_cons_succ, i64_w, i32_w]
               rfl
             exact HBulk.RunsM.nil
            refine done_ (done_of HT_.out (by kernel_rfl)) ?_
            try go_wp2_with (first | ((with_reducible refine gate_callee (f := 14) rfl ?_); refine goesL_ (some 127) rfl rfl Tryd.func14 (by kernel_rfl) rfl #[] rfl (by (try simp only [List.map_toArray, List.map_cons, List.map_nil]) <;> rfl) ?_; (with_reducible refine (rubricklaw03_knows.calls kj20  t142 _ ?side1 A75.out).mono ?_); (case side1 => exact gw_step hG_ (by repeat (first | (with_reducible first | exact HB.out | apply below_alloc | apply pw_below_drewN | apply below_drew1 | refine below_set ?_ GE117.out | refine below_set ?_ GE139.out) | exact HB.out))); rintro e w92 ⟨rfl, hb⟩; refine ⟨_, rfl, ?_⟩; have n0_ := Aside0.mk (HCmp.rB HO_118000.out hb); have n1_ := Aside0.mk (HCmp.rB HO_118001.out hb); have n2_ := Aside0.mk (HCmp.rB HO128.out hb); have n3_ := Aside0.mk (HCmp.rB HO131.out hb); have n4_ := Aside0.mk (HCmp.rB HO134.out hb); have n5_ := Aside0.mk (HCmp.rB HO137.out hb); have n6_ := Aside0.mk (HCmp.kB BK117.out hb); have n7_ := Aside0.mk (HCmp.kB BK139.out hb); have n8_ := Aside0.mk (below_step (by repeat (first | (with_reducible first | exact HB.out | apply below_alloc | apply pw_below_drewN | apply below_drew1 | refine below_set ?_ GE117.out | refine below_set ?_ GE139.out) | exact HB.out)) hb); clear HO_118000; clear HO_118001; clear HO128; clear HO131; clear HO134; clear HO137; clear BK117; clear BK139; clear HB; have HO_118000 := n0_; have HO_118001 := n1_; have HO128 := n2_; have HO131 := n3_; have HO134 := n4_; have HO137 := n5_; have BK117 := n6_; have BK139 := n7_; have HB := n8_; clear n0_ n1_ n2_ n3_ n4_ n5_ n6_ n7_ n8_; (try clear hb)))
            go_ret
            exact ⟨by first | rfl | (simp [errW_none, errW_some] <;> rfl) | exact congrArg (fun b_ : Bool => Ending.returned (Value.bool b_)) HT2_.out | (simp [*, errW_none, errW_some] <;> rfl), by repeat (first | (with_reducible first | exact HB.out | apply below_alloc | apply pw_below_drewN | apply below_drew1 | refine below_set ?_ GE117.out | refine below_set ?_ GE139.out) | exact HB.out)⟩
           ·rw [if_neg c74] at H
            have c74b0 : (t140.toList == t141.toList) = false := beq_eq_false_iff_ne.mpr c74
            have c74b1 : (t140.toList != t141.toList) = true := bne_iff_ne.mpr c74
            cases H
          ·replace c71 := Bool.eq_false_iff.mpr c71
           subst c71
           have H1 : ((rubricklaw03_knows.f kj20).bind fun t143 => (some t143)) = some true := by rw [if_neg (show ¬ (false = true) by decide)] at H; exact H
           clear H
           have H := H1
           clear H1
           replace H := Option.bind_eq_some_iff.mp H
           obtain ⟨t143, A930, H⟩ := H
           replace H : (some t143) = some true := H
           have A93 := Aside0.mk A930
           clear A930
           have HT2_ := Aside0.mk (Option.some.inj H)
           clear H
           try go_wp2_with (first | ((with_reducible refine gate_callee (f := 24) rfl ?_); refine goesL_ (some 81) rfl rfl Tryd.func24 (by kernel_rfl) rfl #[.string a2, .string a3] rfl (by (try simp only [List.map_toArray, List.map_cons, List.map_nil]) <;> rfl) ?_; (with_reducible refine (seal_Node.calls kj20 a2 a3 t122 t123 _ ?side1 A63.out).mono ?_); (case side1 => exact gw_step hG_ (by repeat (first | (with_reducible first | exact HB.out | apply below_alloc | apply pw_below_drewN | apply below_drew1 | refine below_set ?_ GE117.out) | exact HB.out))); rintro e w94 ⟨rfl, hb⟩; refine ⟨_, rfl, ?_⟩; have n0_ := Aside0.mk (HCmp.rB HO_118000.out hb); have n1_ := Aside0.mk (HCmp.rB HO_118001.out hb); have n2_ := Aside0.mk (HCmp.kB BK117.out hb); have n3_ := Aside0.mk (below_step (by repeat (first | (with_reducible first | exact HB.out | apply below_alloc | apply pw_below_drewN | apply below_drew1 | refine below_set ?_ GE117.out) | exact HB.out)) hb); clear HO_118000; clear HO_118001; clear BK117; clear HB; have HO_118000 := n0_; have HO_118001 := n1_; have BK117 := n2_; have HB := n3_; clear n0_ n1_ n2_ n3_; (try clear hb)) | ((with_reducible refine gate_callee (f := 24) rfl ?_); refine goesL_ (some 87) rfl rfl Tryd.func24 (by kernel_rfl) rfl #[.string a4, .string a5] rfl (by (try simp only [List.map_toArray, List.map_cons, List.map_nil]) <;> rfl) ?_; (with_reducible refine (seal_Node.calls kj20 a4 a5 t124 t125 _ ?side1 A64.out).mono ?_); (case side1 => exact gw_step hG_ (by repeat (first | (with_reducible first | exact HB.out | apply below_alloc | apply pw_below_drewN | apply below_drew1 | refine below_set ?_ GE117.out) | exact HB.out))); rintro e w95 ⟨rfl, hb⟩; refine ⟨_, rfl, ?_⟩; have n0_ := Aside0.mk (HCmp.rB HO_118000.out hb); have n1_ := Aside0.mk (HCmp.rB HO_118001.out hb); have n2_ := Aside0.mk (HCmp.kB BK117.out hb); have n3_ := Aside0.mk (below_step (by repeat (first | (with_reducible first | exact HB.out | apply below_alloc | apply pw_below_drewN | apply below_drew1 | refine below_set ?_ GE117.out) | exact HB.out)) hb); clear HO_118000; clear HO_118001; clear BK117; clear HB; have HO_118000 := n0_; have HO_118001 := n1_; have BK117 := n2_; have HB := n3_; clear n0_ n1_ n2_ n3_; (try clear hb)) | ((with_reducible refine gate_callee (f := 16) rfl ?_); refine goesL_ (some 93) rfl rfl Tryd.func16 (by kernel_rfl) rfl #[.string a2, .string a3] rfl (by (try simp only [List.map_toArray, List.map_cons, List.map_nil]) <;> rfl) ?_; (with_reducible refine (seal_NodeBytes.calls kj20 a2 a3 t126 _ A65.out).mono ?_); rintro e w96 ⟨v127, rfl, ho0, hb⟩; refine ⟨_, rfl, ?_⟩; have n0_ := Aside0.mk (Kd.R_elder' (by (with_reducible repeat (first | apply Kd.R_alloc | apply Kd.R_drewN | apply Kd.R_drew)); exact HO_118000.out) (Kd.R_base ho0) hb); have n1_ := Aside0.mk (Kd.R_elder' (by (with_reducible repeat (first | apply Kd.R_alloc | apply Kd.R_drewN | apply Kd.R_drew)); exact HO_118001.out) (Kd.R_base ho0) hb); have n2_ := Aside0.mk (Kd.R_lower (Kd.R_new' (Kd.R_new' ho0 (Kd.R_lt (by (with_reducible repeat (first | apply Kd.R_alloc | apply Kd.R_drewN | apply Kd.R_drew)); exact HO_118000.out))) (Kd.R_lt (by (with_reducible repeat (first | apply Kd.R_alloc | apply Kd.R_drewN | apply Kd.R_drew)); exact HO_118001.out))) (below_size (by repeat (first | (with_reducible first | exact HB.out | apply below_alloc | apply pw_below_drewN | apply below_drew1 | refine below_set ?_ GE117.out) | exact HB.out)))); have n3_ := Aside0.mk (HCmp.kB BK117.out hb); have n4_ := Aside0.mk (below_step (by repeat (first | (with_reducible first | exact HB.out | apply below_alloc | apply pw_below_drewN | apply below_drew1 | refine below_set ?_ GE117.out) | exact HB.out)) hb); clear HO_118000; clear HO_118001; clear BK117; clear HB; have HO_118000 := n0_; have HO_118001 := n1_; have HO128 := n2_; have BK117 := n3_; have HB := n4_; clear n0_ n1_ n2_ n3_ n4_; (try clear hb); (try clear ho0)) | ((with_reducible refine gate_callee (f := 16) rfl ?_); refine goesL_ (some 96) rfl rfl Tryd.func16 (by kernel_rfl) rfl #[.string a4, .string a5] rfl (by (try simp only [List.map_toArray, List.map_cons, List.map_nil]) <;> rfl) ?_; (with_reducible refine (seal_NodeBytes.calls kj20 a4 a5 t129 _ A66.out).mono ?_); rintro e w97 ⟨v130, rfl, ho0, hb⟩; refine ⟨_, rfl, ?_⟩; have n0_ := Aside0.mk (Kd.R_elder' (by (with_reducible repeat (first | apply Kd.R_alloc | apply Kd.R_drewN | apply Kd.R_drew)); exact HO_118000.out) (Kd.R_base ho0) hb); have n1_ := Aside0.mk (Kd.R_elder' (by (with_reducible repeat (first | apply Kd.R_alloc | apply Kd.R_drewN | apply Kd.R_drew)); exact HO_118001.out) (Kd.R_base ho0) hb); have n2_ := Aside0.mk (Kd.R_elder' (by (with_reducible repeat (first | apply Kd.R_alloc | apply Kd.R_drewN | apply Kd.R_drew)); exact HO128.out) (Kd.R_base ho0) hb); have n3_ := Aside0.mk (Kd.R_lower (Kd.R_new' (Kd.R_new' (Kd.R_new' ho0 (Kd.R_lt (by (with_reducible repeat (first | apply Kd.R_alloc | apply Kd.R_drewN | apply Kd.R_drew)); exact HO_118000.out))) (Kd.R_lt (by (with_reducible repeat (first | apply Kd.R_alloc | apply Kd.R_drewN | apply Kd.R_drew)); exact HO_118001.out))) (Kd.R_lt (by (with_reducible repeat (first | apply Kd.R_alloc | apply Kd.R_drewN | apply Kd.R_drew)); exact HO128.out))) (below_size (by repeat (first | (with_reducible first | exact HB.out | apply below_alloc | apply pw_below_drewN | apply below_drew1 | refine below_set ?_ GE117.out) | exact HB.out)))); have n4_ := Aside0.mk (HCmp.kB BK117.out hb); have n5_ := Aside0.mk (below_step (by repeat (first | (with_reducible first | exact HB.out | apply below_alloc | apply pw_below_drewN | apply below_drew1 | refine below_set ?_ GE117.out) | exact HB.out)) hb); clear HO_118000; clear HO_118001; clear HO128; clear BK117; clear HB; have HO_118000 := n0_; have HO_118001 := n1_; have HO128 := n2_; have HO131 := n3_; have BK117 := n4_; have HB := n5_; clear n0_ n1_ n2_ n3_ n4_ n5_; (try clear hb); (try clear ho0); obtain ⟨Ao98, co98, eo98⟩ := Kd.R_slice HO128.out; subst eo98; obtain ⟨Ao99, co99, eo99⟩ := Kd.R_slice HO131.out; subst eo99) | ((with_reducible refine gate_callee (f := 36) rfl ?_); refine goesL_ (some 97) rfl rfl Tryd.func36 (by kernel_rfl) rfl #[.slice Ao98 t126.length co98, .slice Ao99 t129.length co99] rfl (by (try simp only [List.map_toArray, List.map_cons, List.map_nil]) <;> rfl) ?_; (with_reducible refine (seal_Between.calls _ _ t126 _ _ t129 t132 t135 false _ ?side5 ?side1 ?side2 ?side3 ?side4 A67.out).mono ?_); (case side1 => repeat (first | exact (Kd.R_reads' HO128.out).2.2 | (with_reducible refine Kd.C_alloc ?_ _) | (with_reducible refine Kd.C_drewN ?_ _) | (with_reducible refine Kd.C_drew ?_))); (case side2 => exact (Kd.R_reads' HO128.out).2.1); (case side3 => repeat (first | exact (Kd.R_reads' HO131.out).2.2 | (with_reducible refine Kd.C_alloc ?_ _) | (with_reducible refine Kd.C_drewN ?_ _) | (with_reducible refine Kd.C_drew ?_))); (case side4 => exact (Kd.R_reads' HO131.out).2.1); (case side5 => exact gw_step hG_ (by repeat (first | (with_reducible first | exact HB.out | apply below_alloc | apply pw_below_drewN | apply below_drew1 | refine below_set ?_ GE117.out) | exact HB.out))); rintro e w100 ⟨v133, v136, rfl, ho0, ho1, hb⟩; refine ⟨_, rfl, ?_⟩; have n0_ := Aside0.mk (Kd.R_mono (Kd.R_told (Kd.R_told (Kd.R_old (by (with_reducible repeat (first | apply Kd.R_alloc | apply Kd.R_drewN | apply Kd.R_drew)); exact HO_118000.out) hb) (Kd.R_base ho0)) (Kd.R_base ho1)) (fun _ h_ => h_.1)); have n1_ := Aside0.mk (Kd.R_mono (Kd.R_told (Kd.R_told (Kd.R_old (by (with_reducible repeat (first | apply Kd.R_alloc | apply Kd.R_drewN | apply Kd.R_drew)); exact HO_118001.out) hb) (Kd.R_base ho0)) (Kd.R_base ho1)) (fun _ h_ => h_.1)); have n2_ := Aside0.mk (Kd.R_mono (Kd.R_told (Kd.R_told (Kd.R_old (by (with_reducible repeat (first | apply Kd.R_alloc | apply Kd.R_drewN | apply Kd.R_drew)); exact HO128.out) hb) (Kd.R_base ho0)) (Kd.R_base ho1)) (fun _ h_ => h_.1)); have n3_ := Aside0.mk (Kd.R_mono (Kd.R_told (Kd.R_told (Kd.R_old (by (with_reducible repeat (first | apply Kd.R_alloc | apply Kd.R_drewN | apply Kd.R_drew)); exact HO131.out) hb) (Kd.R_base ho0)) (Kd.R_base ho1)) (fun _ h_ => h_.1)); have n4_ := Aside0.mk (Kd.R_lower (Kd.R_new' (Kd.R_new' (Kd.R_new' (Kd.R_new' ho0 (Kd.R_lt (by (with_reducible repeat (first | apply Kd.R_alloc | apply Kd.R_drewN | apply Kd.R_drew)); exact HO_118000.out))) (Kd.R_lt (by (with_reducible repeat (first | apply Kd.R_alloc | apply Kd.R_drewN | apply Kd.R_drew)); exact HO_118001.out))) (Kd.R_lt (by (with_reducible repeat (first | apply Kd.R_alloc | apply Kd.R_drewN | apply Kd.R_drew)); exact HO128.out))) (Kd.R_lt (by (with_reducible repeat (first | apply Kd.R_alloc | apply Kd.R_drewN | apply Kd.R_drew)); exact HO131.out))) (below_size (by repeat (first | (with_reducible first | exact HB.out | apply below_alloc | apply pw_below_drewN | apply below_drew1 | refine below_set ?_ GE117.out) | exact HB.out)))); have n5_ := Aside0.mk (Kd.R_lower (Kd.R_new' (Kd.R_new' (Kd.R_new' (Kd.R_new' ho1 (Kd.R_lt (by (with_reducible repeat (first | apply Kd.R_alloc | apply Kd.R_drewN | apply Kd.R_drew)); exact HO_118000.out))) (Kd.R_lt (by (with_reducible repeat (first | apply Kd.R_alloc | apply Kd.R_drewN | apply Kd.R_drew)); exact HO_118001.out))) (Kd.R_lt (by (with_reducible repeat (first | apply Kd.R_alloc | apply Kd.R_drewN | apply Kd.R_drew)); exact HO128.out))) (Kd.R_lt (by (with_reducible repeat (first | apply Kd.R_alloc | apply Kd.R_drewN | apply Kd.R_drew)); exact HO131.out))) (below_size (by repeat (first | (with_reducible first | exact HB.out | apply below_alloc | apply pw_below_drewN | apply below_drew1 | refine below_set ?_ GE117.out) | exact HB.out)))); have n6_ := Aside0.mk (HCmp.kB BK117.out hb); have n7_ := Aside0.mk (below_step (by repeat (first | (with_reducible first | exact HB.out | apply below_alloc | apply pw_below_drewN | apply below_drew1 | refine below_set ?_ GE117.out) | exact HB.out)) hb); clear HO_118000; clear HO_118001; clear HO128; clear HO131; clear BK117; clear HB; have HO_118000 := n0_; have HO_118001 := n1_; have HO128 := n2_; have HO131 := n3_; have HO134 := n4_; have HO137 := n5_; have BK117 := n6_; have HB := n7_; clear n0_ n1_ n2_ n3_ n4_ n5_ n6_ n7_; (try clear hb); (try clear ho0); (try clear ho1)) | ((with_reducible refine gate_dst (N := 19) rfl ?_); (try (refine gate_guard (by rfl) ?_; dsimp only)); refine box_event ?hg (N := 19) ?hd (cs := #[.slice none 0 0, .slice none 0 0]) (t := 53) ?hr ?_; (case hd => rfl); (case hg => rfl); (case hr => first | (go_simp; done) | (go_simp; rfl)); intro gb139 hg w101 hbox hb; have n0_ := Aside0.mk (HCmp.rB HO_118000.out hb); have n1_ := Aside0.mk (HCmp.rB HO_118001.out hb); have n2_ := Aside0.mk (HCmp.rB HO128.out hb); have n3_ := Aside0.mk (HCmp.rB HO131.out hb); have n4_ := Aside0.mk (HCmp.rB HO134.out hb); have n5_ := Aside0.mk (HCmp.rB HO137.out hb); have n6_ := Aside0.mk (HCmp.kB BK117.out hb); have n7_ := Aside0.mk (below_step (by repeat (first | (with_reducible first | exact HB.out | apply below_alloc | apply pw_below_drewN | apply below_drew1 | refine below_set ?_ GE117.out) | exact HB.out)) hb); have n8_ := Aside0.mk (hbox); have n9_ := Aside0.mk ((by rw [hg]; exact (below_size (by repeat (first | (with_reducible first | exact HB.out | apply below_alloc | apply pw_below_drewN | apply below_drew1 | refine below_set ?_ GE117.out) | exact HB.out))) : w.heap.size ≤ gb139)); have n10_ := Aside0.mk ((by rw [hg]; exact (below_size (by repeat (first | (with_reducible first | exact HB.out | apply below_alloc | apply pw_below_drewN | apply below_drew1 | refine below_set ?_ GE117.out) | exact HB.out))) : w.heap.size ≤ gb139)); have n11_ := Aside0.mk ((by rw [hg]; exact Nat.ne_of_lt (blk_lt (g := gb117) (o := .cells #[.slice Ao28 t110.length co28, .slice Ao30 t113.length co30] 53 (0, 0)) (by (with_reducible repeat (first | refine blk_drewN ?_ _ | refine blk_drew ?_ | refine blk_alloc ?_ _)); exact BK117.out)) : gb117 ≠ gb139)); have n12_ := Aside0.mk ((by rw [hg]; exact Nat.ne_of_gt (blk_lt (g := gb117) (o := .cells #[.slice Ao28 t110.length co28, .slice Ao30 t113.length co30] 53 (0, 0)) (by (with_reducible repeat (first | refine blk_drewN ?_ _ | refine blk_drew ?_ | refine blk_alloc ?_ _)); exact BK117.out)) : gb139 ≠ gb117)); clear HO_118000; clear HO_118001; clear HO128; clear HO131; clear HO134; clear HO137; clear BK117; clear HB; have HO_118000 := n0_; have HO_118001 := n1_; have HO128 := n2_; have HO131 := n3_; have HO134 := n4_; have HO137 := n5_; have BK117 := n6_; have HB := n7_; have BK139 := n8_; have GW139 := n9_; have GE139 := n10_; have NB117_139 := n11_; have NB139_117 := n12_; clear n0_ n1_ n2_ n3_ n4_ n5_ n6_ n7_ n8_ n9_ n10_ n11_ n12_; clear hb hbox hg; obtain ⟨Ao102, co102, eo102⟩ := Kd.R_slice HO134.out; subst eo102; have hnb103 := NB139_117.out; have hnc103 := NB117_139.out; have hcz104_0 : w101.cell? ⟨gb139, 0, none⟩ = some (.slice none 0 0) := (blk_cell BK139.out 0).trans rfl; have hcz104_1 : w101.cell? ⟨gb139, 1, none⟩ = some (.slice none 0 0) := (blk_cell BK139.out 1).trans rfl; have hfz104_0 := blk_frozen BK139.out 0; have hfz104_1 := blk_frozen BK139.out 1; obtain ⟨Ao105, co105, eo105⟩ := Kd.R_slice HO137.out; subst eo105))
           have n0_ : Aside0 (Kd.R (Kd.int .u8) 5 ((w101.setCell ⟨gb139, 0, none⟩ (.slice Ao102 t132.length co102)).setCell ⟨gb139, 1, none⟩ (.slice Ao105 t135.length co105)) w.heap.size (fun k_ => some k_ ≠ (.slice Ao30 t113.length co30 : Value).ownBlock ∧ some k_ ≠ (.slice Ao98 t126.length co98 : Value).ownBlock ∧ some k_ ≠ (.slice Ao99 t129.length co99 : Value).ownBlock ∧ some k_ ≠ (.slice Ao102 t132.length co102 : Value).ownBlock ∧ some k_ ≠ (.slice Ao105 t135.length co105 : Value).ownBlock) (.slice Ao28 t110.length co28) t110) := ⟨by (with_reducible repeat (first | apply Kd.R_alloc | apply Kd.R_drewN | apply Kd.R_drew)); exact Kd.R_mono (Kd.R_far (p := ⟨gb139, 1, none⟩) (Kd.R_far (p := ⟨gb139, 0, none⟩) (Kd.R_types HO_118000.out BK139.out (by decide)) (fun _ hk => hk.2) (.slice Ao102 t132.length co102)) (fun _ hk => hk.2) (.slice Ao105 t135.length co105)) (fun _ hk => ⟨hk.1.1.1.1.1, ⟨hk.1.1.1.1.2, ⟨hk.1.1.1.2, ⟨hk.1.1.2, hk.1.2⟩⟩⟩⟩)⟩
           have n1_ : Aside0 (Kd.R (Kd.int .u8) 5 ((w101.setCell ⟨gb139, 0, none⟩ (.slice Ao102 t132.length co102)).setCell ⟨gb139, 1, none⟩ (.slice Ao105 t135.length co105)) w.heap.size (fun k_ => some k_ ≠ (.slice Ao28 t110.length co28 : Value).ownBlock ∧ some k_ ≠ (.slice Ao98 t126.length co98 : Value).ownBlock ∧ some k_ ≠ (.slice Ao99 t129.length co99 : Value).ownBlock ∧ some k_ ≠ (.slice Ao102 t132.length co102 : Value).ownBlock ∧ some k_ ≠ (.slice Ao105 t135.length co105 : Value).ownBlock) (.slice Ao30 t113.length co30) t113) := ⟨by (with_reducible repeat (first | apply Kd.R_alloc | apply Kd.R_drewN | apply Kd.R_drew)); exact Kd.R_mono (Kd.R_far (p := ⟨gb139, 1, none⟩) (Kd.R_far (p := ⟨gb139, 0, none⟩) (Kd.R_types HO_118001.out BK139.out (by decide)) (fun _ hk => hk.2) (.slice Ao102 t132.length co102)) (fun _ hk => hk.2) (.slice Ao105 t135.length co105)) (fun _ hk => ⟨hk.1.1.1.1.1, ⟨hk.1.1.1.1.2, ⟨hk.1.1.1.2, ⟨hk.1.1.2, hk.1.2⟩⟩⟩⟩)⟩
           have n2_ : Aside0 (Kd.R (Kd.int .u8) 5 ((w101.setCell ⟨gb139, 0, none⟩ (.slice Ao102 t132.length co102)).setCell ⟨gb139, 1, none⟩ (.slice Ao105 t135.length co105)) w.heap.size (fun k_ => some k_ ≠ (.slice Ao28 t110.length co28 : Value).ownBlock ∧ some k_ ≠ (.slice Ao30 t113.length co30 : Value).ownBlock ∧ some k_ ≠ (.slice Ao99 t129.length co99 : Value).ownBlock ∧ some k_ ≠ (.slice Ao102 t132.length co102 : Value).ownBlock ∧ some k_ ≠ (.slice Ao105 t135.length co105 : Value).ownBlock) (.slice Ao98 t126.length co98) t126) := ⟨by (with_reducible repeat (first | apply Kd.R_alloc | apply Kd.R_drewN | apply Kd.R_drew)); exact Kd.R_mono (Kd.R_far (p := ⟨gb139, 1, none⟩) (Kd.R_far (p := ⟨gb139, 0, none⟩) (Kd.R_types HO128.out BK139.out (by decide)) (fun _ hk => hk.2) (.slice Ao102 t132.length co102)) (fun _ hk => hk.2) (.slice Ao105 t135.length co105)) (fun _ hk => ⟨hk.1.1.1.1.1.2, ⟨hk.1.1.1.1.2, ⟨hk.1.1.1.2, ⟨hk.1.1.2, hk.1.2⟩⟩⟩⟩)⟩
           have n3_ : Aside0 (Kd.R (Kd.int .u8) 5 ((w101.setCell ⟨gb139, 0, none⟩ (.slice Ao102 t132.length co102)).setCell ⟨gb139, 1, none⟩ (.slice Ao105 t135.length co105)) w.heap.size (fun k_ => some k_ ≠ (.slice Ao28 t110.length co28 : Value).ownBlock ∧ some k_ ≠ (.slice Ao30 t113.length co30 : Value).ownBlock ∧ some k_ ≠ (.slice Ao98 t126.length co98 : Value).ownBlock ∧ some k_ ≠ (.slice Ao102 t132.length co102 : Value).ownBlock ∧ some k_ ≠ (.slice Ao105 t135.length co105 : Value).ownBlock) (.slice Ao99 t129.length co99) t129) := ⟨by (with_reducible repeat (first | apply Kd.R_alloc | apply Kd.R_drewN | apply Kd.R_drew)); exact Kd.R_mono (Kd.R_far (p := ⟨gb139, 1, none⟩) (Kd.R_far (p := ⟨gb139, 0, none⟩) (Kd.R_types HO131.out BK139.out (by decide)) (fun _ hk => hk.2) (.slice Ao102 t132.length co102)) (fun _ hk => hk.2) (.slice Ao105 t135.length co105)) (fun _ hk => ⟨hk.1.1.1.1.1.2, ⟨hk.1.1.1.1.2, ⟨hk.1.1.1.2, ⟨hk.1.1.2, hk.1.2⟩⟩⟩⟩)⟩
           have n4_ : Aside0 (Kd.R (Kd.int .u8) 5 ((w101.setCell ⟨gb139, 0, none⟩ (.slice Ao102 t132.length co102)).setCell ⟨gb139, 1, none⟩ (.slice Ao105 t135.length co105)) w.heap.size (fun k_ => some k_ ≠ (.slice Ao28 t110.length co28 : Value).ownBlock ∧ some k_ ≠ (.slice Ao30 t113.length co30 : Value).ownBlock ∧ some k_ ≠ (.slice Ao98 t126.length co98 : Value).ownBlock ∧ some k_ ≠ (.slice Ao99 t129.length co99 : Value).ownBlock ∧ some k_ ≠ (.slice Ao105 t135.length co105 : Value).ownBlock) (.slice Ao102 t132.length co102) t132) := ⟨by (with_reducible repeat (first | apply Kd.R_alloc | apply Kd.R_drewN | apply Kd.R_drew)); exact Kd.R_mono (Kd.R_far (p := ⟨gb139, 1, none⟩) (Kd.R_far (p := ⟨gb139, 0, none⟩) (Kd.R_types HO134.out BK139.out (by decide)) (fun _ hk => hk.2) (.slice Ao102 t132.length co102)) (fun _ hk => hk.2) (.slice Ao105 t135.length co105)) (fun _ hk => ⟨hk.1.1.1.1.2, ⟨hk.1.1.1.2, ⟨hk.1.1.2, ⟨hk.1.2, hk.1.1.1.1.1⟩⟩⟩⟩)⟩
           have n5_ : Aside0 (Kd.R (Kd.int .u8) 5 ((w101.setCell ⟨gb139, 0, none⟩ (.slice Ao102 t132.length co102)).setCell ⟨gb139, 1, none⟩ (.slice Ao105 t135.length co105)) w.heap.size (fun k_ => some k_ ≠ (.slice Ao28 t110.length co28 : Value).ownBlock ∧ some k_ ≠ (.slice Ao30 t113.length co30 : Value).ownBlock ∧ some k_ ≠ (.slice Ao98 t126.length co98 : Value).ownBlock ∧ some k_ ≠ (.slice Ao99 t129.length co99 : Value).ownBlock ∧ some k_ ≠ (.slice Ao102 t132.length co102 : Value).ownBlock) (.slice Ao105 t135.length co105) t135) := ⟨by (with_reducible repeat (first | apply Kd.R_alloc | apply Kd.R_drewN | apply Kd.R_drew)); exact Kd.R_mono (Kd.R_far (p := ⟨gb139, 1, none⟩) (Kd.R_far (p := ⟨gb139, 0, none⟩) (Kd.R_types HO137.out BK139.out (by decide)) (fun _ hk => hk.2) (.slice Ao102 t132.length co102)) (fun _ hk => hk.2) (.slice Ao105 t135.length co105)) (fun _ hk => ⟨hk.1.1.1.1.2, ⟨hk.1.1.1.2, ⟨hk.1.1.2, ⟨hk.1.2, hk.1.1.1.1.1⟩⟩⟩⟩)⟩
           have n6_ : Aside0 (((w101.setCell ⟨gb139, 0, none⟩ (.slice Ao102 t132.length co102)).setCell ⟨gb139, 1, none⟩ (.slice Ao105 t135.length co105)).heap[gb117]? = some (.cells #[.slice Ao28 t110.length co28, .slice Ao30 t113.length co30] 53 (0, 0))) := ⟨by (with_reducible repeat (first | refine blk_drewN ?_ _ | refine blk_drew ?_ | refine blk_alloc ?_ _)); refine blk_far ?_ NB117_139.out _; (with_reducible repeat (first | refine blk_drewN ?_ _ | refine blk_drew ?_ | refine blk_alloc ?_ _)); refine blk_far ?_ NB117_139.out _; (with_reducible repeat (first | refine blk_drewN ?_ _ | refine blk_drew ?_ | refine blk_alloc ?_ _)); exact BK117.out⟩
           have n7_ : Aside0 (((w101.setCell ⟨gb139, 0, none⟩ (.slice Ao102 t132.length co102)).setCell ⟨gb139, 1, none⟩ (.slice Ao105 t135.length co105)).heap[gb139]? = some (.cells #[.slice Ao102 t132.length co102, .slice Ao105 t135.length co105] 53 (0, 0))) := ⟨by (with_reducible repeat (first | refine blk_drewN ?_ _ | refine blk_drew ?_ | refine blk_alloc ?_ _)); refine blk_put (cs := #[.slice Ao102 t132.length co102, .slice none 0 0]) ?_ 1 _ rfl; (with_reducible repeat (first | refine blk_drewN ?_ _ | refine blk_drew ?_ | refine blk_alloc ?_ _)); refine blk_put (cs := #[.slice none 0 0, .slice none 0 0]) ?_ 0 _ rfl; (with_reducible repeat (first | refine blk_drewN ?_ _ | refine blk_drew ?_ | refine blk_alloc ?_ _)); exact BK139.out⟩
           have n8_ : Aside0 (Below w.heap.size w ((w101.setCell ⟨gb139, 0, none⟩ (.slice Ao102 t132.length co102)).setCell ⟨gb139, 1, none⟩ (.slice Ao105 t135.length co105))) := ⟨by repeat (first | (with_reducible first | exact HB.out | apply below_alloc | apply pw_below_drewN | apply below_drew1 | refine below_set ?_ GE117.out | refine below_set ?_ GE139.out) | exact HB.out)⟩
           (try clear HO_118000)
           (try clear HO_118001)
           (try clear HO128)
           (try clear HO131)
           (try clear HO134)
           (try clear HO137)
           (try clear BK117)
           (try clear BK139)
           (try clear HB)
           generalize ((w101.setCell ⟨gb139, 0, none⟩ (.slice Ao102 t132.length co102)).setCell ⟨gb139, 1, none⟩ (.slice Ao105 t135.length co105)) = w106 at n0_ n1_ n2_ n3_ n4_ n5_ n6_ n7_ n8_ ⊢
           have HO_118000 := n0_
           have HO_118001 := n1_
           have HO128 := n2_
           have HO131 := n3_
           have HO134 := n4_
           have HO137 := n5_
           have BK117 := n6_
           have BK139 := n7_
           have HB := n8_
           clear n0_ n1_ n2_ n3_ n4_ n5_ n6_ n7_ n8_
           have n0_ := Aside0.mk (Kd.R_drew HO_118000.out)
           have n1_ := Aside0.mk (Kd.R_drew HO_118001.out)
           have n2_ := Aside0.mk (Kd.R_drew HO128.out)
           have n3_ := Aside0.mk (Kd.R_drew HO131.out)
           have n4_ := Aside0.mk (Kd.R_drew HO134.out)
           have n5_ := Aside0.mk (Kd.R_drew HO137.out)
           have n6_ := Aside0.mk (blk_drew BK117.out)
           have n7_ := Aside0.mk (blk_drew BK139.out)
           have n8_ := Aside0.mk (below_drew1 HB.out)
           clear HO_118000
           clear HO_118001
           clear HO128
           clear HO131
           clear HO134
           clear HO137
           clear BK117
           clear BK139
           clear HB
           have HO_118000 := n0_
           have HO_118001 := n1_
           have HO128 := n2_
           have HO131 := n3_
           have HO134 := n4_
           have HO137 := n5_
           have BK117 := n6_
           have BK139 := n7_
           have HB := n8_
           clear n0_ n1_ n2_ n3_ n4_ n5_ n6_ n7_ n8_
           refine start_ (n := 27) (S := fun w' => True) (ds := []) #[false, false, false, false, false, false, false, false, false, false, false, false, false, false, false, false, false, false, false, false, false, false, false, false, false, false, false] (by kernel_rfl) rfl rfl trivial (fun hHeld => ?_); refine with_tabW rubricklaw03_SealTwo.tab9 rubricklaw03_SealTwo.bits9 (fun HT_ HW_ => ?_)
           generalize w106.drew = w107 at HO_118000 HO_118001 HO128 HO131 HO134 HO137 BK117 BK139 HB hHeld ⊢
           refine HBulk.bulkT (fuel := 17) HT_.out HW_.out [(0, some 100, false), (1, some 101, false), (2, some 102, false), (3, some 103, false), (4, some 104, false), (5, some 105, false), (6, some 106, false), (7, some 107, false), (8, some 108, false), (9, some 109, false)] #[true, true, true, true, true, true, true, true, true, true, false, false, false, false, false, false, false, false, false, false, false, false, false, false, false, false, false] (a' := ?_) (by kernel_rfl) rfl hHeld ?_ ?_
           rotate_left
           ·repeat
             refine HBulk.RunsM.cons (v := ?_) (a1 := ?_) rfl rfl (fun _ _ _ h => h) (by rfl) ?_ ?_ ?_
             rotate_left
             ·intro w' hS_
              go_simp
              with_reducible rfl
             rotate_left
             ·simp only [Act.put, List.setIfInBounds_toArray, List.set_cons_zero, List.set_cons_succ, i64_w, i32_w]
              rfl
            exact HBulk.RunsM.nil
           refine pure_ (i := 10) (N := some 110) (v := undef) (a' := ?_) #[true, true, true, true, true, true, true, true, true, true, true, false, false, false, false, false, false, false, false, false, false, false, false, false, false, false, false] rfl rfl (any_of HT_.out (by kernel_rfl)) (fun _ _ _ h => h) (Or.inr ⟨by rfl, rfl⟩) ?_ ?_
           rotate_left
           ·simp only [Act.put, List.setIfInBounds_toArray, List.set_cons_zero, List.set_cons_succ, i64_w, i32_w]
            rfl
           refine pure_ (i := 11) (N := some 111) (v := undef) (a' := ?_) #[true, true, true, true, true, true, true, true, true, true, true, true, false, false, false, false, false, false, false, false, false, false, false, false, false, false, false] rfl rfl (any_of HT_.out (by kernel_rfl)) (fun _ _ _ h => h) (Or.inr ⟨by rfl, rfl⟩) ?_ ?_
           rotate_left
           ·simp only [Act.put, List.setIfInBounds_toArray, List.set_cons_zero, List.set_cons_succ, i64_w, i32_w]
            rfl
           refine pure_ (i := 12) (N := some 112) (v := undef) (a' := ?_) #[true, true, true, true, true, true, true, true, true, true, true, true, true, false, false, false, false, false, false, false, false, false, false, false, false, false, false] rfl rfl (any_of HT_.out (by kernel_rfl)) (fun _ _ _ h => h) (Or.inr ⟨by rfl, rfl⟩) ?_ ?_
           rotate_left
           ·simp only [Act.put, List.setIfInBounds_toArray, List.set_cons_zero, List.set_cons_succ, i64_w, i32_w]
            rfl
           refine HBulk.bulkT (fuel := 9) HT_.out HW_.out [(13, some 113, false), (14, some 114, false), (15, some 115, false), (16, some 116, false), (17, some 117, false)] #[true, true, true, true, true, true, true, true, true, true, true, true, true, true, true, true, true, true, false, false, false, false, false, false, false, false, false] (a' := ?_) (by kernel_rfl) rfl hHeld ?_ ?_
           rotate_left
           ·repeat
             refine HBulk.RunsM.cons (v := ?_) (a1 := ?_) rfl rfl (fun _ _ _ h => h) (by rfl) ?_ ?_ ?_
             rotate_left
             ·intro w' hS_
              go_simp
              with_reducible rfl
             rotate_left
             ·simp only [Act.put, List.setIfInBounds_toArray, List.set_cons_zero, List.set_cons_succ, i64_w, i32_w]
              rfl
            exact HBulk.RunsM.nil
           refine pure_ (i := 18) (N := some 118) (v := undef) (a' := ?_) #[true, true, true, true, true, true, true, true, true, true, true, true, true, true, true, true, true, true, true, false, false, false, false, false, false, false, false] rfl rfl (any_of HT_.out (by kernel_rfl)) (fun _ _ _ h => h) (Or.inr ⟨by rfl, rfl⟩) ?_ ?_
           rotate_left
           ·simp only [Act.put, List.setIfInBounds_toArray, List.set_cons_zero, List.set_cons_succ, i64_w, i32_w]
            rfl
           refine pure_ (i := 19) (N := some 119) (v := undef) (a' := ?_) #[true, true, true, true, true, true, true, true, true, true, true, true, true, true, true, true, true, true, true, true, false, false, false, false, false, false, false] rfl rfl (any_of HT_.out (by kernel_rfl)) (fun _ _ _ h => h) (Or.inr ⟨by rfl, rfl⟩) ?_ ?_
           rotate_left
           ·simp only [Act.put, List.setIfInBounds_toArray, List.set_cons_zero, List.set_cons_succ, i64_w, i32_w]
            rfl
           refine pure_ (i := 20) (N := some 120) (v := undef) (a' := ?_) #[true, true, true, true, true, true, true, true, true, true, true, true, true, true, true, true, true, true, true, true, true, false, false, false, false, false, false] rfl rfl (any_of HT_.out (by kernel_rfl)) (fun _ _ _ h => h) (Or.inr ⟨by rfl, rfl⟩) ?_ ?_
           rotate_left
           ·simp only [Act.put, List.setIfInBounds_toArray, List.set_cons_zero, List.set_cons_succ, i64_w, i32_w]
            rfl
           refine pure_ (i := 21) (N := some 121) (v := undef) (a' := ?_) #[true, true, true, true, true, true, true, true, true, true, true, true, true, true, true, true, true, true, true, true, true, true, false, false, false, false, false] rfl rfl (any_of HT_.out (by kernel_rfl)) (fun _ _ _ h => h) (Or.inr ⟨by rfl, rfl⟩) ?_ ?_
           rotate_left
           ·simp only [Act.put, List.setIfInBounds_toArray, List.set_cons_zero, List.set_cons_succ, i64_w, i32_w]
            rfl
           refine pure_ (i := 22) (N := some 122) (v := undef) (a' := ?_) #[true, true, true, true, true, true, true, true, true, true, true, true, true, true, true, true, true, true, true, true, true, true, true, false, false, false, false] rfl rfl (any_of HT_.out (by kernel_rfl)) (fun _ _ _ h => h) (Or.inr ⟨by rfl, rfl⟩) ?_ ?_
           rotate_left
           ·simp only [Act.put, List.setIfInBounds_toArray, List.set_cons_zero, List.set_cons_succ, i64_w, i32_w]
            rfl
           refine pure_ (i := 23) (N := some 123) (v := undef) (a' := ?_) #[true, true, true, true, true, true, true, true, true, true, true, true, true, true, true, true, true, true, true, true, true, true, true, true, false, false, false] rfl rfl (any_of HT_.out (by kernel_rfl)) (fun _ _ _ h => h) (Or.inr ⟨by rfl, rfl⟩) ?_ ?_
           rotate_left
           ·simp only [Act.put, List.setIfInBounds_toArray, List.set_cons_zero, List.set_cons_succ, i64_w, i32_w]
            rfl
           refine pure_ (i := 24) (N := some 124) (v := undef) (a' := ?_) #[true, true, true, true, true, true, true, true, true, true, true, true, true, true, true, true, true, true, true, true, true, true, true, true, true, false, false] rfl rfl (any_of HT_.out (by kernel_rfl)) (fun _ _ _ h => h) (Or.inr ⟨by rfl, rfl⟩) ?_ ?_
           rotate_left
           ·simp only [Act.put, List.setIfInBounds_toArray, List.set_cons_zero, List.set_cons_succ, i64_w, i32_w]
            rfl
           refine HBulk.bulkT (fuel := 0) HT_.out HW_.out [(25, some 125, false), (26, some 126, false)] #[true, true, true, true, true, true, true, true, true, true, true, true, true, true, true, true, true, true, true, true, true, true, true, true, true, true, true] (a' := ?_) (by kernel_rfl) rfl hHeld ?_ ?_
           rotate_left
           ·repeat
             refine HBulk.RunsM.cons (v := ?_) (a1 := ?_) rfl rfl (fun _ _ _ h => h) (by rfl) ?_ ?_ ?_
             rotate_left
             ·intro w' hS_
              go_simp
              with_reducible rfl
             rotate_left
             ·simp only [Act.put, List.setIfInBounds_toArray, List.set_cons_zero, List.set_cons_succ, i64_w, i32_w]
              rfl
            exact HBulk.RunsM.nil
           refine done_ (done_of HT_.out (by kernel_rfl)) ?_
           try go_wp2_with (first | ((with_reducible refine gate_callee (f := 14) rfl ?_); refine goesL_ (some 127) rfl rfl Tryd.func14 (by kernel_rfl) rfl #[] rfl (by (try simp only [List.map_toArray, List.map_cons, List.map_nil]) <;> rfl) ?_; (with_reducible refine (rubricklaw03_knows.calls kj20  t143 _ ?side1 A93.out).mono ?_); (case side1 => exact gw_step hG_ (by repeat (first | (with_reducible first | exact HB.out | apply below_alloc | apply pw_below_drewN | apply below_drew1 | refine below_set ?_ GE117.out | refine below_set ?_ GE139.out) | exact HB.out))); rintro e w108 ⟨rfl, hb⟩; refine ⟨_, rfl, ?_⟩; have n0_ := Aside0.mk (HCmp.rB HO_118000.out hb); have n1_ := Aside0.mk (HCmp.rB HO_118001.out hb); have n2_ := Aside0.mk (HCmp.rB HO128.out hb); have n3_ := Aside0.mk (HCmp.rB HO131.out hb); have n4_ := Aside0.mk (HCmp.rB HO134.out hb); have n5_ := Aside0.mk (HCmp.rB HO137.out hb); have n6_ := Aside0.mk (HCmp.kB BK117.out hb); have n7_ := Aside0.mk (HCmp.kB BK139.out hb); have n8_ := Aside0.mk (below_step (by repeat (first | (with_reducible first | exact HB.out | apply below_alloc | apply pw_below_drewN | apply below_drew1 | refine below_set ?_ GE117.out | refine below_set ?_ GE139.out) | exact HB.out)) hb); clear HO_118000; clear HO_118001; clear HO128; clear HO131; clear HO134; clear HO137; clear BK117; clear BK139; clear HB; have HO_118000 := n0_; have HO_118001 := n1_; have HO128 := n2_; have HO131 := n3_; have HO134 := n4_; have HO137 := n5_; have BK117 := n6_; have BK139 := n7_; have HB := n8_; clear n0_ n1_ n2_ n3_ n4_ n5_ n6_ n7_ n8_; (try clear hb)))
           go_ret
           exact ⟨by first | rfl | (simp [errW_none, errW_some] <;> rfl) | exact congrArg (fun b_ : Bool => Ending.returned (Value.bool b_)) HT2_.out | (simp [*, errW_none, errW_some] <;> rfl), by repeat (first | (with_reducible first | exact HB.out | apply below_alloc | apply pw_below_drewN | apply below_drew1 | refine below_set ?_ GE117.out | refine below_set ?_ GE139.out) | exact HB.out)⟩
        ·rw [if_neg c69] at H
         have c69b0 : (a3.toList == a5.toList) = false := beq_eq_false_iff_ne.mpr c69
         have c69b1 : (a3.toList != a5.toList) = true := bne_iff_ne.mpr c69
         by_cases c109 : (t138 != (t122.toList == t124.toList)) = true
         ·rw [if_pos c109] at H
          have c109b0 : (t138 != (t122.toList == t124.toList)) = true := c109
          (try (have c109b1 : decide (t138 = (t122.toList == t124.toList)) = false := by simpa using c109))
          (try (have c109b2 : (t138 == (t122.toList == t124.toList)) = false := by simpa using c109))
          (try (have c109b3 : ¬ (t138 = (t122.toList == t124.toList)) := by simpa using c109))
          clear c109
          cases H
         ·rw [if_neg c109] at H
          have c109b0 : (t138 != (t122.toList == t124.toList)) = false := by simpa using c109
          (try (have c109b1 : decide (t138 = (t122.toList == t124.toList)) = true := by simpa using c109))
          (try (have c109b2 : (t138 == (t122.toList == t124.toList)) = true := by simpa using c109))
          clear c109
          by_cases c110 : t138 = true
          ·subst c110
           have H1 : ((rubrickref01_Sum.f kj20 t132).bind fun t144 => ((rubrickref01_Sum.f kj20 t135).bind fun t145 => (if t144.toList = t145.toList then ((rubricklaw03_knows.f kj20).bind fun t146 => (some t146)) else (some false)))) = some true := by rw [if_pos rfl] at H; exact H
           clear H
           have H := H1
           clear H1
           replace H := Option.bind_eq_some_iff.mp H
           obtain ⟨t144, A1110, H⟩ := H
           replace H : ((rubrickref01_Sum.f kj20 t135).bind fun t145 => (if t144.toList = t145.toList then ((rubricklaw03_knows.f kj20).bind fun t146 => (some t146)) else (some false))) = some true := H
           have A111 := Aside0.mk A1110
           clear A1110
           replace H := Option.bind_eq_some_iff.mp H
           obtain ⟨t145, A1120, H⟩ := H
           replace H : (if t144.toList = t145.toList then ((rubricklaw03_knows.f kj20).bind fun t146 => (some t146)) else (some false)) = some true := H
           have A112 := Aside0.mk A1120
           clear A1120
           by_cases c113 : t144.toList = t145.toList
           ·rw [if_pos c113] at H
            have c113b0 : (t144.toList == t145.toList) = true := beq_iff_eq.mpr c113
            have c113b1 : (t144.toList != t145.toList) = false := bne_eq_false_iff_eq.mpr c113
            clear c113
            replace H := Option.bind_eq_some_iff.mp H
            obtain ⟨t146, A1140, H⟩ := H
            replace H : (some t146) = some true := H
            have A114 := Aside0.mk A1140
            clear A1140
            have HT2_ := Aside0.mk (Option.some.inj H)
            clear H
            try go_wp2_with (first | ((with_reducible refine gate_callee (f := 24) rfl ?_); refine goesL_ (some 81) rfl rfl Tryd.func24 (by kernel_rfl) rfl #[.string a2, .string a3] rfl (by (try simp only [List.map_toArray, List.map_cons, List.map_nil]) <;> rfl) ?_; (with_reducible refine (seal_Node.calls kj20 a2 a3 t122 t123 _ ?side1 A63.out).mono ?_); (case side1 => exact gw_step hG_ (by repeat (first | (with_reducible first | exact HB.out | apply below_alloc | apply pw_below_drewN | apply below_drew1 | refine below_set ?_ GE117.out) | exact HB.out))); rintro e w115 ⟨rfl, hb⟩; refine ⟨_, rfl, ?_⟩; have n0_ := Aside0.mk (HCmp.rB HO_118000.out hb); have n1_ := Aside0.mk (HCmp.rB HO_118001.out hb); have n2_ := Aside0.mk (HCmp.kB BK117.out hb); have n3_ := Aside0.mk (below_step (by repeat (first | (with_reducible first | exact HB.out | apply below_alloc | apply pw_below_drewN | apply below_drew1 | refine below_set ?_ GE117.out) | exact HB.out)) hb); clear HO_118000; clear HO_118001; clear BK117; clear HB; have HO_118000 := n0_; have HO_118001 := n1_; have BK117 := n2_; have HB := n3_; clear n0_ n1_ n2_ n3_; (try clear hb)) | ((with_reducible refine gate_callee (f := 24) rfl ?_); refine goesL_ (some 87) rfl rfl Tryd.func24 (by kernel_rfl) rfl #[.string a4, .string a5] rfl (by (try simp only [List.map_toArray, List.map_cons, List.map_nil]) <;> rfl) ?_; (with_reducible refine (seal_Node.calls kj20 a4 a5 t124 t125 _ ?side1 A64.out).mono ?_); (case side1 => exact gw_step hG_ (by repeat (first | (with_reducible first | exact HB.out | apply below_alloc | apply pw_below_drewN | apply below_drew1 | refine below_set ?_ GE117.out) | exact HB.out))); rintro e w116 ⟨rfl, hb⟩; refine ⟨_, rfl, ?_⟩; have n0_ := Aside0.mk (HCmp.rB HO_118000.out hb); have n1_ := Aside0.mk (HCmp.rB HO_118001.out hb); have n2_ := Aside0.mk (HCmp.kB BK117.out hb); have n3_ := Aside0.mk (below_step (by repeat (first | (with_reducible first | exact HB.out | apply below_alloc | apply pw_below_drewN | apply below_drew1 | refine below_set ?_ GE117.out) | exact HB.out)) hb); clear HO_118000; clear HO_118001; clear BK117; clear HB; have HO_118000 := n0_; have HO_118001 := n1_; have BK117 := n2_; have HB := n3_; clear n0_ n1_ n2_ n3_; (try clear hb)) | ((with_reducible refine gate_callee (f := 16) rfl ?_); refine goesL_ (some 93) rfl rfl Tryd.func16 (by kernel_rfl) rfl #[.string a2, .string a3] rfl (by (try simp only [List.map_toArray, List.map_cons, List.map_nil]) <;> rfl) ?_; (with_reducible refine (seal_NodeBytes.calls kj20 a2 a3 t126 _ A65.out).mono ?_); rintro e w117 ⟨v127, rfl, ho0, hb⟩; refine ⟨_, rfl, ?_⟩; have n0_ := Aside0.mk (Kd.R_elder' (by (with_reducible repeat (first | apply Kd.R_alloc | apply Kd.R_drewN | apply Kd.R_drew)); exact HO_118000.out) (Kd.R_base ho0) hb); have n1_ := Aside0.mk (Kd.R_elder' (by (with_reducible repeat (first | apply Kd.R_alloc | apply Kd.R_drewN | apply Kd.R_drew)); exact HO_118001.out) (Kd.R_base ho0) hb); have n2_ := Aside0.mk (Kd.R_lower (Kd.R_new' (Kd.R_new' ho0 (Kd.R_lt (by (with_reducible repeat (first | apply Kd.R_alloc | apply Kd.R_drewN | apply Kd.R_drew)); exact HO_118000.out))) (Kd.R_lt (by (with_reducible repeat (first | apply Kd.R_alloc | apply Kd.R_drewN | apply Kd.R_drew)); exact HO_118001.out))) (below_size (by repeat (first | (with_reducible first | exact HB.out | apply below_alloc | apply pw_below_drewN | apply below_drew1 | refine below_set ?_ GE117.out) | exact HB.out)))); have n3_ := Aside0.mk (HCmp.kB BK117.out hb); have n4_ := Aside0.mk (below_step (by repeat (first | (with_reducible first | exact HB.out | apply below_alloc | apply pw_below_drewN | apply below_drew1 | refine below_set ?_ GE117.out) | exact HB.out)) hb); clear HO_118000; clear HO_118001; clear BK117; clear HB; have HO_118000 := n0_; have HO_118001 := n1_; have HO128 := n2_; have BK117 := n3_; have HB := n4_; clear n0_ n1_ n2_ n3_ n4_; (try clear hb); (try clear ho0)) | ((with_reducible refine gate_callee (f := 16) rfl ?_); refine goesL_ (some 96) rfl rfl Tryd.func16 (by kernel_rfl) rfl #[.string a4, .string a5] rfl (by (try simp only [List.map_toArray, List.map_cons, List.map_nil]) <;> rfl) ?_; (with_reducible refine (seal_NodeBytes.calls kj20 a4 a5 t129 _ A66.out).mono ?_); rintro e w118 ⟨v130, rfl, ho0, hb⟩; refine ⟨_, rfl, ?_⟩; have n0_ := Aside0.mk (Kd.R_elder' (by (with_reducible repeat (first | apply Kd.R_alloc | apply Kd.R_drewN | apply Kd.R_drew)); exact HO_118000.out) (Kd.R_base ho0) hb); have n1_ := Aside0.mk (Kd.R_elder' (by (with_reducible repeat (first | apply Kd.R_alloc | apply Kd.R_drewN | apply Kd.R_drew)); exact HO_118001.out) (Kd.R_base ho0) hb); have n2_ := Aside0.mk (Kd.R_elder' (by (with_reducible repeat (first | apply Kd.R_alloc | apply Kd.R_drewN | apply Kd.R_drew)); exact HO128.out) (Kd.R_base ho0) hb); have n3_ := Aside0.mk (Kd.R_lower (Kd.R_new' (Kd.R_new' (Kd.R_new' ho0 (Kd.R_lt (by (with_reducible repeat (first | apply Kd.R_alloc | apply Kd.R_drewN | apply Kd.R_drew)); exact HO_118000.out))) (Kd.R_lt (by (with_reducible repeat (first | apply Kd.R_alloc | apply Kd.R_drewN | apply Kd.R_drew)); exact HO_118001.out))) (Kd.R_lt (by (with_reducible repeat (first | apply Kd.R_alloc | apply Kd.R_drewN | apply Kd.R_drew)); exact HO128.out))) (below_size (by repeat (first | (with_reducible first | exact HB.out | apply below_alloc | apply pw_below_drewN | apply below_drew1 | refine below_set ?_ GE117.out) | exact HB.out)))); have n4_ := Aside0.mk (HCmp.kB BK117.out hb); have n5_ := Aside0.mk (below_step (by repeat (first | (with_reducible first | exact HB.out | apply below_alloc | apply pw_below_drewN | apply below_drew1 | refine below_set ?_ GE117.out) | exact HB.out)) hb); clear HO_118000; clear HO_118001; clear HO128; clear BK117; clear HB; have HO_118000 := n0_; have HO_118001 := n1_; have HO128 := n2_; have HO131 := n3_; have BK117 := n4_; have HB := n5_; clear n0_ n1_ n2_ n3_ n4_ n5_; (try clear hb); (try clear ho0); obtain ⟨Ao119, co119, eo119⟩ := Kd.R_slice HO128.out; subst eo119; obtain ⟨Ao120, co120, eo120⟩ := Kd.R_slice HO131.out; subst eo120) | ((with_reducible refine gate_callee (f := 36) rfl ?_); refine goesL_ (some 97) rfl rfl Tryd.func36 (by kernel_rfl) rfl #[.slice Ao119 t126.length co119, .slice Ao120 t129.length co120] rfl (by (try simp only [List.map_toArray, List.map_cons, List.map_nil]) <;> rfl) ?_; (with_reducible refine (seal_Between.calls _ _ t126 _ _ t129 t132 t135 true _ ?side5 ?side1 ?side2 ?side3 ?side4 A67.out).mono ?_); (case side1 => repeat (first | exact (Kd.R_reads' HO128.out).2.2 | (with_reducible refine Kd.C_alloc ?_ _) | (with_reducible refine Kd.C_drewN ?_ _) | (with_reducible refine Kd.C_drew ?_))); (case side2 => exact (Kd.R_reads' HO128.out).2.1); (case side3 => repeat (first | exact (Kd.R_reads' HO131.out).2.2 | (with_reducible refine Kd.C_alloc ?_ _) | (with_reducible refine Kd.C_drewN ?_ _) | (with_reducible refine Kd.C_drew ?_))); (case side4 => exact (Kd.R_reads' HO131.out).2.1); (case side5 => exact gw_step hG_ (by repeat (first | (with_reducible first | exact HB.out | apply below_alloc | apply pw_below_drewN | apply below_drew1 | refine below_set ?_ GE117.out) | exact HB.out))); rintro e w121 ⟨v133, v136, rfl, ho0, ho1, hb⟩; refine ⟨_, rfl, ?_⟩; have n0_ := Aside0.mk (Kd.R_mono (Kd.R_told (Kd.R_told (Kd.R_old (by (with_reducible repeat (first | apply Kd.R_alloc | apply Kd.R_drewN | apply Kd.R_drew)); exact HO_118000.out) hb) (Kd.R_base ho0)) (Kd.R_base ho1)) (fun _ h_ => h_.1)); have n1_ := Aside0.mk (Kd.R_mono (Kd.R_told (Kd.R_told (Kd.R_old (by (with_reducible repeat (first | apply Kd.R_alloc | apply Kd.R_drewN | apply Kd.R_drew)); exact HO_118001.out) hb) (Kd.R_base ho0)) (Kd.R_base ho1)) (fun _ h_ => h_.1)); have n2_ := Aside0.mk (Kd.R_mono (Kd.R_told (Kd.R_told (Kd.R_old (by (with_reducible repeat (first | apply Kd.R_alloc | apply Kd.R_drewN | apply Kd.R_drew)); exact HO128.out) hb) (Kd.R_base ho0)) (Kd.R_base ho1)) (fun _ h_ => h_.1)); have n3_ := Aside0.mk (Kd.R_mono (Kd.R_told (Kd.R_told (Kd.R_old (by (with_reducible repeat (first | apply Kd.R_alloc | apply Kd.R_drewN | apply Kd.R_drew)); exact HO131.out) hb) (Kd.R_base ho0)) (Kd.R_base ho1)) (fun _ h_ => h_.1)); have n4_ := Aside0.mk (Kd.R_lower (Kd.R_new' (Kd.R_new' (Kd.R_new' (Kd.R_new' ho0 (Kd.R_lt (by (with_reducible repeat (first | apply Kd.R_alloc | apply Kd.R_drewN | apply Kd.R_drew)); exact HO_118000.out))) (Kd.R_lt (by (with_reducible repeat (first | apply Kd.R_alloc | apply Kd.R_drewN | apply Kd.R_drew)); exact HO_118001.out))) (Kd.R_lt (by (with_reducible repeat (first | apply Kd.R_alloc | apply Kd.R_drewN | apply Kd.R_drew)); exact HO128.out))) (Kd.R_lt (by (with_reducible repeat (first | apply Kd.R_alloc | apply Kd.R_drewN | apply Kd.R_drew)); exact HO131.out))) (below_size (by repeat (first | (with_reducible first | exact HB.out | apply below_alloc | apply pw_below_drewN | apply below_drew1 | refine below_set ?_ GE117.out) | exact HB.out)))); have n5_ := Aside0.mk (Kd.R_lower (Kd.R_new' (Kd.R_new' (Kd.R_new' (Kd.R_new' ho1 (Kd.R_lt (by (with_reducible repeat (first | apply Kd.R_alloc | apply Kd.R_drewN | apply Kd.R_drew)); exact HO_118000.out))) (Kd.R_lt (by (with_reducible repeat (first | apply Kd.R_alloc | apply Kd.R_drewN | apply Kd.R_drew)); exact HO_118001.out))) (Kd.R_lt (by (with_reducible repeat (first | apply Kd.R_alloc | apply Kd.R_drewN | apply Kd.R_drew)); exact HO128.out))) (Kd.R_lt (by (with_reducible repeat (first | apply Kd.R_alloc | apply Kd.R_drewN | apply Kd.R_drew)); exact HO131.out))) (below_size (by repeat (first | (with_reducible first | exact HB.out | apply below_alloc | apply pw_below_drewN | apply below_drew1 | refine below_set ?_ GE117.out) | exact HB.out)))); have n6_ := Aside0.mk (HCmp.kB BK117.out hb); have n7_ := Aside0.mk (below_step (by repeat (first | (with_reducible first | exact HB.out | apply below_alloc | apply pw_below_drewN | apply below_drew1 | refine below_set ?_ GE117.out) | exact HB.out)) hb); clear HO_118000; clear HO_118001; clear HO128; clear HO131; clear BK117; clear HB; have HO_118000 := n0_; have HO_118001 := n1_; have HO128 := n2_; have HO131 := n3_; have HO134 := n4_; have HO137 := n5_; have BK117 := n6_; have HB := n7_; clear n0_ n1_ n2_ n3_ n4_ n5_ n6_ n7_; (try clear hb); (try clear ho0); (try clear ho1)) | ((with_reducible refine gate_dst (N := 19) rfl ?_); (try (refine gate_guard (by rfl) ?_; dsimp only)); refine box_event ?hg (N := 19) ?hd (cs := #[.slice none 0 0, .slice none 0 0]) (t := 53) ?hr ?_; (case hd => rfl); (case hg => rfl); (case hr => first | (go_simp; done) | (go_simp; rfl)); intro gb139 hg w122 hbox hb; have n0_ := Aside0.mk (HCmp.rB HO_118000.out hb); have n1_ := Aside0.mk (HCmp.rB HO_118001.out hb); have n2_ := Aside0.mk (HCmp.rB HO128.out hb); have n3_ := Aside0.mk (HCmp.rB HO131.out hb); have n4_ := Aside0.mk (HCmp.rB HO134.out hb); have n5_ := Aside0.mk (HCmp.rB HO137.out hb); have n6_ := Aside0.mk (HCmp.kB BK117.out hb); have n7_ := Aside0.mk (below_step (by repeat (first | (with_reducible first | exact HB.out | apply below_alloc | apply pw_below_drewN | apply below_drew1 | refine below_set ?_ GE117.out) | exact HB.out)) hb); have n8_ := Aside0.mk (hbox); have n9_ := Aside0.mk ((by rw [hg]; exact (below_size (by repeat (first | (with_reducible first | exact HB.out | apply below_alloc | apply pw_below_drewN | apply below_drew1 | refine below_set ?_ GE117.out) | exact HB.out))) : w.heap.size ≤ gb139)); have n10_ := Aside0.mk ((by rw [hg]; exact (below_size (by repeat (first | (with_reducible first | exact HB.out | apply below_alloc | apply pw_below_drewN | apply below_drew1 | refine below_set ?_ GE117.out) | exact HB.out))) : w.heap.size ≤ gb139)); have n11_ := Aside0.mk ((by rw [hg]; exact Nat.ne_of_lt (blk_lt (g := gb117) (o := .cells #[.slice Ao28 t110.length co28, .slice Ao30 t113.length co30] 53 (0, 0)) (by (with_reducible repeat (first | refine blk_drewN ?_ _ | refine blk_drew ?_ | refine blk_alloc ?_ _)); exact BK117.out)) : gb117 ≠ gb139)); have n12_ := Aside0.mk ((by rw [hg]; exact Nat.ne_of_gt (blk_lt (g := gb117) (o := .cells #[.slice Ao28 t110.length co28, .slice Ao30 t113.length co30] 53 (0, 0)) (by (with_reducible repeat (first | refine blk_drewN ?_ _ | refine blk_drew ?_ | refine blk_alloc ?_ _)); exact BK117.out)) : gb139 ≠ gb117)); clear HO_118000; clear HO_118001; clear HO128; clear HO131; clear HO134; clear HO137; clear BK117; clear HB; have HO_118000 := n0_; have HO_118001 := n1_; have HO128 := n2_; have HO131 := n3_; have HO134 := n4_; have HO137 := n5_; have BK117 := n6_; have HB := n7_; have BK139 := n8_; have GW139 := n9_; have GE139 := n10_; have NB117_139 := n11_; have NB139_117 := n12_; clear n0_ n1_ n2_ n3_ n4_ n5_ n6_ n7_ n8_ n9_ n10_ n11_ n12_; clear hb hbox hg; obtain ⟨Ao123, co123, eo123⟩ := Kd.R_slice HO134.out; subst eo123; have hnb124 := NB139_117.out; have hnc124 := NB117_139.out; have hcz125_0 : w122.cell? ⟨gb139, 0, none⟩ = some (.slice none 0 0) := (blk_cell BK139.out 0).trans rfl; have hcz125_1 : w122.cell? ⟨gb139, 1, none⟩ = some (.slice none 0 0) := (blk_cell BK139.out 1).trans rfl; have hfz125_0 := blk_frozen BK139.out 0; have hfz125_1 := blk_frozen BK139.out 1; obtain ⟨Ao126, co126, eo126⟩ := Kd.R_slice HO137.out; subst eo126))
            have n0_ : Aside0 (Kd.R (Kd.int .u8) 5 ((w122.setCell ⟨gb139, 0, none⟩ (.slice Ao123 t132.length co123)).setCell ⟨gb139, 1, none⟩ (.slice Ao126 t135.length co126)) w.heap.size (fun k_ => some k_ ≠ (.slice Ao30 t113.length co30 : Value).ownBlock ∧ some k_ ≠ (.slice Ao119 t126.length co119 : Value).ownBlock ∧ some k_ ≠ (.slice Ao120 t129.length co120 : Value).ownBlock ∧ some k_ ≠ (.slice Ao123 t132.length co123 : Value).ownBlock ∧ some k_ ≠ (.slice Ao126 t135.length co126 : Value).ownBlock) (.slice Ao28 t110.length co28) t110) := ⟨by (with_reducible repeat (first | apply Kd.R_alloc | apply Kd.R_drewN | apply Kd.R_drew)); exact Kd.R_mono (Kd.R_far (p := ⟨gb139, 1, none⟩) (Kd.R_far (p := ⟨gb139, 0, none⟩) (Kd.R_types HO_118000.out BK139.out (by decide)) (fun _ hk => hk.2) (.slice Ao123 t132.length co123)) (fun _ hk => hk.2) (.slice Ao126 t135.length co126)) (fun _ hk => ⟨hk.1.1.1.1.1, ⟨hk.1.1.1.1.2, ⟨hk.1.1.1.2, ⟨hk.1.1.2, hk.1.2⟩⟩⟩⟩)⟩
            have n1_ : Aside0 (Kd.R (Kd.int .u8) 5 ((w122.setCell ⟨gb139, 0, none⟩ (.slice Ao123 t132.length co123)).setCell ⟨gb139, 1, none⟩ (.slice Ao126 t135.length co126)) w.heap.size (fun k_ => some k_ ≠ (.slice Ao28 t110.length co28 : Value).ownBlock ∧ some k_ ≠ (.slice Ao119 t126.length co119 : Value).ownBlock ∧ some k_ ≠ (.slice Ao120 t129.length co120 : Value).ownBlock ∧ some k_ ≠ (.slice Ao123 t132.length co123 : Value).ownBlock ∧ some k_ ≠ (.slice Ao126 t135.length co126 : Value).ownBlock) (.slice Ao30 t113.length co30) t113) := ⟨by (with_reducible repeat (first | apply Kd.R_alloc | apply Kd.R_drewN | apply Kd.R_drew)); exact Kd.R_mono (Kd.R_far (p := ⟨gb139, 1, none⟩) (Kd.R_far (p := ⟨gb139, 0, none⟩) (Kd.R_types HO_118001.out BK139.out (by decide)) (fun _ hk => hk.2) (.slice Ao123 t132.length co123)) (fun _ hk => hk.2) (.slice Ao126 t135.length co126)) (fun _ hk => ⟨hk.1.1.1.1.1, ⟨hk.1.1.1.1.2, ⟨hk.1.1.1.2, ⟨hk.1.1.2, hk.1.2⟩⟩⟩⟩)⟩
            have n2_ : Aside0 (Kd.R (Kd.int .u8) 5 ((w122.setCell ⟨gb139, 0, none⟩ (.slice Ao123 t132.length co123)).setCell ⟨gb139, 1, none⟩ (.slice Ao126 t135.length co126)) w.heap.size (fun k_ => some k_ ≠ (.slice Ao28 t110.length co28 : Value).ownBlock ∧ some k_ ≠ (.slice Ao30 t113.length co30 : Value).ownBlock ∧ some k_ ≠ (.slice Ao120 t129.length co120 : Value).ownBlock ∧ some k_ ≠ (.slice Ao123 t132.length co123 : Value).ownBlock ∧ some k_ ≠ (.slice Ao126 t135.length co126 : Value).ownBlock) (.slice Ao119 t126.length co119) t126) := ⟨by (with_reducible repeat (first | apply Kd.R_alloc | apply Kd.R_drewN | apply Kd.R_drew)); exact Kd.R_mono (Kd.R_far (p := ⟨gb139, 1, none⟩) (Kd.R_far (p := ⟨gb139, 0, none⟩) (Kd.R_types HO128.out BK139.out (by decide)) (fun _ hk => hk.2) (.slice Ao123 t132.length co123)) (fun _ hk => hk.2) (.slice Ao126 t135.length co126)) (fun _ hk => ⟨hk.1.1.1.1.1.2, ⟨hk.1.1.1.1.2, ⟨hk.1.1.1.2, ⟨hk.1.1.2, hk.1.2⟩⟩⟩⟩)⟩
            have n3_ : Aside0 (Kd.R (Kd.int .u8) 5 ((w122.setCell ⟨gb139, 0, none⟩ (.slice Ao123 t132.length co123)).setCell ⟨gb139, 1, none⟩ (.slice Ao126 t135.length co126)) w.heap.size (fun k_ => some k_ ≠ (.slice Ao28 t110.length co28 : Value).ownBlock ∧ some k_ ≠ (.slice Ao30 t113.length co30 : Value).ownBlock ∧ some k_ ≠ (.slice Ao119 t126.length co119 : Value).ownBlock ∧ some k_ ≠ (.slice Ao123 t132.length co123 : Value).ownBlock ∧ some k_ ≠ (.slice Ao126 t135.length co126 : Value).ownBlock) (.slice Ao120 t129.length co120) t129) := ⟨by (with_reducible repeat (first | apply Kd.R_alloc | apply Kd.R_drewN | apply Kd.R_drew)); exact Kd.R_mono (Kd.R_far (p := ⟨gb139, 1, none⟩) (Kd.R_far (p := ⟨gb139, 0, none⟩) (Kd.R_types HO131.out BK139.out (by decide)) (fun _ hk => hk.2) (.slice Ao123 t132.length co123)) (fun _ hk => hk.2) (.slice Ao126 t135.length co126)) (fun _ hk => ⟨hk.1.1.1.1.1.2, ⟨hk.1.1.1.1.2, ⟨hk.1.1.1.2, ⟨hk.1.1.2, hk.1.2⟩⟩⟩⟩)⟩
            have n4_ : Aside0 (Kd.R (Kd.int .u8) 5 ((w122.setCell ⟨gb139, 0, none⟩ (.slice Ao123 t132.length co123)).setCell ⟨gb139, 1, none⟩ (.slice Ao126 t135.length co126)) w.heap.size (fun k_ => some k_ ≠ (.slice Ao28 t110.length co28 : Value).ownBlock ∧ some k_ ≠ (.slice Ao30 t113.length co30 : Value).ownBlock ∧ some k_ ≠ (.slice Ao119 t126.length co119 : Value).ownBlock ∧ some k_ ≠ (.slice Ao120 t129.length co120 : Value).ownBlock ∧ some k_ ≠ (.slice Ao126 t135.length co126 : Value).ownBlock) (.slice Ao123 t132.length co123) t132) := ⟨by (with_reducible repeat (first | apply Kd.R_alloc | apply Kd.R_drewN | apply Kd.R_drew)); exact Kd.R_mono (Kd.R_far (p := ⟨gb139, 1, none⟩) (Kd.R_far (p := ⟨gb139, 0, none⟩) (Kd.R_types HO134.out BK139.out (by decide)) (fun _ hk => hk.2) (.slice Ao123 t132.length co123)) (fun _ hk => hk.2) (.slice Ao126 t135.length co126)) (fun _ hk => ⟨hk.1.1.1.1.2, ⟨hk.1.1.1.2, ⟨hk.1.1.2, ⟨hk.1.2, hk.1.1.1.1.1⟩⟩⟩⟩)⟩
            have n5_ : Aside0 (Kd.R (Kd.int .u8) 5 ((w122.setCell ⟨gb139, 0, none⟩ (.slice Ao123 t132.length co123)).setCell ⟨gb139, 1, none⟩ (.slice Ao126 t135.length co126)) w.heap.size (fun k_ => some k_ ≠ (.slice Ao28 t110.length co28 : Value).ownBlock ∧ some k_ ≠ (.slice Ao30 t113.length co30 : Value).ownBlock ∧ some k_ ≠ (.slice Ao119 t126.length co119 : Value).ownBlock ∧ some k_ ≠ (.slice Ao120 t129.length co120 : Value).ownBlock ∧ some k_ ≠ (.slice Ao123 t132.length co123 : Value).ownBlock) (.slice Ao126 t135.length co126) t135) := ⟨by (with_reducible repeat (first | apply Kd.R_alloc | apply Kd.R_drewN | apply Kd.R_drew)); exact Kd.R_mono (Kd.R_far (p := ⟨gb139, 1, none⟩) (Kd.R_far (p := ⟨gb139, 0, none⟩) (Kd.R_types HO137.out BK139.out (by decide)) (fun _ hk => hk.2) (.slice Ao123 t132.length co123)) (fun _ hk => hk.2) (.slice Ao126 t135.length co126)) (fun _ hk => ⟨hk.1.1.1.1.2, ⟨hk.1.1.1.2, ⟨hk.1.1.2, ⟨hk.1.2, hk.1.1.1.1.1⟩⟩⟩⟩)⟩
            have n6_ : Aside0 (((w122.setCell ⟨gb139, 0, none⟩ (.slice Ao123 t132.length co123)).setCell ⟨gb139, 1, none⟩ (.slice Ao126 t135.length co126)).heap[gb117]? = some (.cells #[.slice Ao28 t110.length co28, .slice Ao30 t113.length co30] 53 (0, 0))) := ⟨by (with_reducible repeat (first | refine blk_drewN ?_ _ | refine blk_drew ?_ | refine blk_alloc ?_ _)); refine blk_far ?_ NB117_139.out _; (with_reducible repeat (first | refine blk_drewN ?_ _ | refine blk_drew ?_ | refine blk_alloc ?_ _)); refine blk_far ?_ NB117_139.out _; (with_reducible repeat (first | refine blk_drewN ?_ _ | refine blk_drew ?_ | refine blk_alloc ?_ _)); exact BK117.out⟩
            have n7_ : Aside0 (((w122.setCell ⟨gb139, 0, none⟩ (.slice Ao123 t132.length co123)).setCell ⟨gb139, 1, none⟩ (.slice Ao126 t135.length co126)).heap[gb139]? = some (.cells #[.slice Ao123 t132.length co123, .slice Ao126 t135.length co126] 53 (0, 0))) := ⟨by (with_reducible repeat (first | refine blk_drewN ?_ _ | refine blk_drew ?_ | refine blk_alloc ?_ _)); refine blk_put (cs := #[.slice Ao123 t132.length co123, .slice none 0 0]) ?_ 1 _ rfl; (with_reducible repeat (first | refine blk_drewN ?_ _ | refine blk_drew ?_ | refine blk_alloc ?_ _)); refine blk_put (cs := #[.slice none 0 0, .slice none 0 0]) ?_ 0 _ rfl; (with_reducible repeat (first | refine blk_drewN ?_ _ | refine blk_drew ?_ | refine blk_alloc ?_ _)); exact BK139.out⟩
            have n8_ : Aside0 (Below w.heap.size w ((w122.setCell ⟨gb139, 0, none⟩ (.slice Ao123 t132.length co123)).setCell ⟨gb139, 1, none⟩ (.slice Ao126 t135.length co126))) := ⟨by repeat (first | (with_reducible first | exact HB.out | apply below_alloc | apply pw_below_drewN | apply below_drew1 | refine below_set ?_ GE117.out | refine below_set ?_ GE139.out) | exact HB.out)⟩
            (try clear HO_118000)
            (try clear HO_118001)
            (try clear HO128)
            (try clear HO131)
            (try clear HO134)
            (try clear HO137)
            (try clear BK117)
            (try clear BK139)
            (try clear HB)
            generalize ((w122.setCell ⟨gb139, 0, none⟩ (.slice Ao123 t132.length co123)).setCell ⟨gb139, 1, none⟩ (.slice Ao126 t135.length co126)) = w127 at n0_ n1_ n2_ n3_ n4_ n5_ n6_ n7_ n8_ ⊢
            have HO_118000 := n0_
            have HO_118001 := n1_
            have HO128 := n2_
            have HO131 := n3_
            have HO134 := n4_
            have HO137 := n5_
            have BK117 := n6_
            have BK139 := n7_
            have HB := n8_
            clear n0_ n1_ n2_ n3_ n4_ n5_ n6_ n7_ n8_
            have n0_ := Aside0.mk (Kd.R_drew HO_118000.out)
            have n1_ := Aside0.mk (Kd.R_drew HO_118001.out)
            have n2_ := Aside0.mk (Kd.R_drew HO128.out)
            have n3_ := Aside0.mk (Kd.R_drew HO131.out)
            have n4_ := Aside0.mk (Kd.R_drew HO134.out)
            have n5_ := Aside0.mk (Kd.R_drew HO137.out)
            have n6_ := Aside0.mk (blk_drew BK117.out)
            have n7_ := Aside0.mk (blk_drew BK139.out)
            have n8_ := Aside0.mk (below_drew1 HB.out)
            clear HO_118000
            clear HO_118001
            clear HO128
            clear HO131
            clear HO134
            clear HO137
            clear BK117
            clear BK139
            clear HB
            have HO_118000 := n0_
            have HO_118001 := n1_
            have HO128 := n2_
            have HO131 := n3_
            have HO134 := n4_
            have HO137 := n5_
            have BK117 := n6_
            have BK139 := n7_
            have HB := n8_
            clear n0_ n1_ n2_ n3_ n4_ n5_ n6_ n7_ n8_
            refine start_ (n := 27) (S := fun w' => w'.cell? ⟨gb139, 0, none⟩ = some (.slice Ao123 t132.length co123) ∧ w'.cell? ⟨gb139, 1, none⟩ = some (.slice Ao126 t135.length co126)) (ds := []) #[false, false, false, false, false, false, false, false, false, false, false, false, false, false, false, false, false, false, false, false, false, false, false, false, false, false, false] (by kernel_rfl) rfl rfl ⟨(blk_cell BK139.out 0).trans rfl, (blk_cell BK139.out 1).trans rfl⟩ (fun hHeld => ?_); refine with_tabW rubricklaw03_SealTwo.tab9 rubricklaw03_SealTwo.bits9 (fun HT_ HW_ => ?_)
            generalize w127.drew = w128 at HO_118000 HO_118001 HO128 HO131 HO134 HO137 BK117 BK139 HB hHeld ⊢
            refine HBulk.bulkT (fuel := 5) HT_.out HW_.out [(0, some 100, false), (1, some 101, false), (2, some 102, false), (3, some 103, false), (4, some 104, false), (5, some 105, false), (6, some 106, false), (7, some 107, false), (8, some 108, false), (9, some 109, false), (10, some 110, false), (11, some 111, false), (12, some 112, false), (13, some 113, false), (14, some 114, false), (15, some 115, false), (16, some 116, false), (17, some 117, false), (18, some 118, false), (21, some 121, false), (19, some 119, true), (22, some 122, true)] #[true, true, true, true, true, true, true, true, true, true, true, true, true, true, true, true, true, true, true, true, false, true, true, false, false, false, false] (a' := ?_) (by kernel_rfl) rfl hHeld ?_ ?_
            rotate_left
            ·repeat
              refine HBulk.RunsM.cons (v := ?_) (a1 := ?_) rfl rfl (fun _ _ _ h => h) (by rfl) ?_ ?_ ?_
              rotate_left
              ·intro w' hS_; (try (obtain ⟨s0, s1⟩ := hS_ rfl))
               go_simp
               with_reducible rfl
              rotate_left
              ·simp only [Act.put, List.setIfInBounds_toArray, List.set_cons_zero, List.set_cons_succ, i64_w, i32_w]
               rfl
             exact HBulk.RunsM.nil
            refine one_ (i := 20) (N := some 120) #[true, true, true, true, true, true, true, true, true, true, true, true, true, true, true, true, true, true, true, true, true, true, true, false, false, false, false] rfl rfl (one_of HT_.out (by kernel_rfl)) (by decide) (fun K hK => ?_)
            refine goes_ Tryd.func28 (by kernel_rfl) rfl #[.slice Ao123 t132.length co123] (by rfl) rfl rfl (by (try simp only [List.map_toArray, List.map_cons, List.map_nil]) <;> rfl) ?_
            with_reducible refine (rubrickref01_Sum.calls kj20 _ _ t132 t144 _ ?side1 ?side2 A111.out).mono ?_
            (case side1 => repeat (first | exact (Kd.R_reads' HO134.out).2.2 | (with_reducible refine Kd.C_alloc ?_ _) | (with_reducible refine Kd.C_drewN ?_ _) | (with_reducible refine Kd.C_drew ?_)))
            (case side2 => exact (Kd.R_reads' HO134.out).2.1)
            rintro e w129 ⟨rfl, hb⟩
            refine ⟨_, rfl, ?_⟩
            have n0_ := Aside0.mk (HCmp.rB HO_118000.out hb)
            have n1_ := Aside0.mk (HCmp.rB HO_118001.out hb)
            have n2_ := Aside0.mk (HCmp.rB HO128.out hb)
            have n3_ := Aside0.mk (HCmp.rB HO131.out hb)
            have n4_ := Aside0.mk (HCmp.rB HO134.out hb)
            have n5_ := Aside0.mk (HCmp.rB HO137.out hb)
            have n6_ := Aside0.mk (HCmp.kB BK117.out hb)
            have n7_ := Aside0.mk (HCmp.kB BK139.out hb)
            have n8_ := Aside0.mk (below_step (by repeat (first | (with_reducible first | exact HB.out | apply below_alloc | apply pw_below_drewN | apply below_drew1 | refine below_set ?_ GE117.out | refine below_set ?_ GE139.out) | exact HB.out)) hb)
            clear HO_118000
            clear HO_118001
            clear HO128
            clear HO131
            clear HO134
            clear HO137
            clear BK117
            clear BK139
            clear HB
            have HO_118000 := n0_
            have HO_118001 := n1_
            have HO128 := n2_
            have HO131 := n3_
            have HO134 := n4_
            have HO137 := n5_
            have BK117 := n6_
            have BK139 := n7_
            have HB := n8_
            clear n0_ n1_ n2_ n3_ n4_ n5_ n6_ n7_ n8_
            (try clear hb)
            (try clear hb2)
            (try clear hk)
            (try clear hi)
            refine hK.out _ _ ⟨(blk_cell BK139.out 0).trans rfl, (blk_cell BK139.out 1).trans rfl⟩ (fun hHeld => ?_)
            clear hK K
            refine norm_ (a' := ?_) ?_ ?_
            rotate_left
            ·show Act.put _ (some 120) _ = _
             simp only [Act.put, List.setIfInBounds_toArray, List.set_cons_zero, List.set_cons_succ, i64_w, i32_w]
             rfl
            refine one_ (i := 23) (N := some 123) #[true, true, true, true, true, true, true, true, true, true, true, true, true, true, true, true, true, true, true, true, true, true, true, true, false, false, false] rfl rfl (one_of HT_.out (by kernel_rfl)) (by decide) (fun K hK => ?_)
            refine goes_ Tryd.func28 (by kernel_rfl) rfl #[.slice Ao126 t135.length co126] (by rfl) rfl rfl (by (try simp only [List.map_toArray, List.map_cons, List.map_nil]) <;> rfl) ?_
            with_reducible refine (rubrickref01_Sum.calls kj20 _ _ t135 t145 _ ?side1 ?side2 A112.out).mono ?_
            (case side1 => repeat (first | exact (Kd.R_reads' HO137.out).2.2 | (with_reducible refine Kd.C_alloc ?_ _) | (with_reducible refine Kd.C_drewN ?_ _) | (with_reducible refine Kd.C_drew ?_)))
            (case side2 => exact (Kd.R_reads' HO137.out).2.1)
            rintro e w130 ⟨rfl, hb⟩
            refine ⟨_, rfl, ?_⟩
            have n0_ := Aside0.mk (HCmp.rB HO_118000.out hb)
            have n1_ := Aside0.mk (HCmp.rB HO_118001.out hb)
            have n2_ := Aside0.mk (HCmp.rB HO128.out hb)
            have n3_ := Aside0.mk (HCmp.rB HO131.out hb)
            have n4_ := Aside0.mk (HCmp.rB HO134.out hb)
            have n5_ := Aside0.mk (HCmp.rB HO137.out hb)
            have n6_ := Aside0.mk (HCmp.kB BK117.out hb)
            have n7_ := Aside0.mk (HCmp.kB BK139.out hb)
            have n8_ := Aside0.mk (below_step (by repeat (first | (with_reducible first | exact HB.out | apply below_alloc | apply pw_below_drewN | apply below_drew1 | refine below_set ?_ GE117.out | refine below_set ?_ GE139.out) | exact HB.out)) hb)
            clear HO_118000
            clear HO_118001
            clear HO128
            clear HO131
            clear HO134
            clear HO137
            clear BK117
            clear BK139
            clear HB
            have HO_118000 := n0_
            have HO_118001 := n1_
            have HO128 := n2_
            have HO131 := n3_
            have HO134 := n4_
            have HO137 := n5_
            have BK117 := n6_
            have BK139 := n7_
            have HB := n8_
            clear n0_ n1_ n2_ n3_ n4_ n5_ n6_ n7_ n8_
            (try clear hb)
            (try clear hb2)
            (try clear hk)
            (try clear hi)
            refine hK.out _ _ ⟨(blk_cell BK139.out 0).trans rfl, (blk_cell BK139.out 1).trans rfl⟩ (fun hHeld => ?_)
            clear hK K
            refine norm_ (a' := ?_) ?_ ?_
            rotate_left
            ·show Act.put _ (some 123) _ = _
             simp only [Act.put, List.setIfInBounds_toArray, List.set_cons_zero, List.set_cons_succ, i64_w, i32_w]
             rfl
            refine HBulk.bulkT (fuel := 0) HT_.out HW_.out [(24, some 124, false), (25, some 125, false), (26, some 126, false)] #[true, true, true, true, true, true, true, true, true, true, true, true, true, true, true, true, true, true, true, true, true, true, true, true, true, true, true] (a' := ?_) (by kernel_rfl) rfl hHeld ?_ ?_
            rotate_left
            ·repeat
              refine HBulk.RunsM.cons (v := ?_) (a1 := ?_) rfl rfl (fun _ _ _ h => h) (by rfl) ?_ ?_ ?_
              rotate_left
              ·intro w' hS_
               go_simp
               with_reducible rfl
              rotate_left
              ·simp only [Act.put, List.setIfInBounds_toArray, List.set_cons_zero, List.set_cons_succ, i64_w, i32_w]
               rfl
             exact HBulk.RunsM.nil
            refine done_ (done_of HT_.out (by kernel_rfl)) ?_
            try go_wp2_with (first | ((with_reducible refine gate_callee (f := 14) rfl ?_); refine goesL_ (some 127) rfl rfl Tryd.func14 (by kernel_rfl) rfl #[] rfl (by (try simp only [List.map_toArray, List.map_cons, List.map_nil]) <;> rfl) ?_; (with_reducible refine (rubricklaw03_knows.calls kj20  t146 _ ?side1 A114.out).mono ?_); (case side1 => exact gw_step hG_ (by repeat (first | (with_reducible first | exact HB.out | apply below_alloc | apply pw_below_drewN | apply below_drew1 | refine below_set ?_ GE117.out | refine below_set ?_ GE139.out) | exact HB.out))); rintro e w131 ⟨rfl, hb⟩; refine ⟨_, rfl, ?_⟩; have n0_ := Aside0.mk (HCmp.rB HO_118000.out hb); have n1_ := Aside0.mk (HCmp.rB HO_118001.out hb); have n2_ := Aside0.mk (HCmp.rB HO128.out hb); have n3_ := Aside0.mk (HCmp.rB HO131.out hb); have n4_ := Aside0.mk (HCmp.rB HO134.out hb); have n5_ := Aside0.mk (HCmp.rB HO137.out hb); have n6_ := Aside0.mk (HCmp.kB BK117.out hb); have n7_ := Aside0.mk (HCmp.kB BK139.out hb); have n8_ := Aside0.mk (below_step (by repeat (first | (with_reducible first | exact HB.out | apply below_alloc | apply pw_below_drewN | apply below_drew1 | refine below_set ?_ GE117.out | refine below_set ?_ GE139.out) | exact HB.out)) hb); clear HO_118000; clear HO_118001; clear HO128; clear HO131; clear HO134; clear HO137; clear BK117; clear BK139; clear HB; have HO_118000 := n0_; have HO_118001 := n1_; have HO128 := n2_; have HO131 := n3_; have HO134 := n4_; have HO137 := n5_; have BK117 := n6_; have BK139 := n7_; have HB := n8_; clear n0_ n1_ n2_ n3_ n4_ n5_ n6_ n7_ n8_; (try clear hb)))
            go_ret
            exact ⟨by first | rfl | (simp [errW_none, errW_some] <;> rfl) | exact congrArg (fun b_ : Bool => Ending.returned (Value.bool b_)) HT2_.out | (simp [*, errW_none, errW_some] <;> rfl), by repeat (first | (with_reducible first | exact HB.out | apply below_alloc | apply pw_below_drewN | apply below_drew1 | refine below_set ?_ GE117.out | refine below_set ?_ GE139.out) | exact HB.out)⟩
           ·rw [if_neg c113] at H
            have c113b0 : (t144.toList == t145.toList) = false := beq_eq_false_iff_ne.mpr c113
            have c113b1 : (t144.toList != t145.toList) = true := bne_iff_ne.mpr c113
            cases H
          ·replace c110 := Bool.eq_false_iff.mpr c110
           subst c110
           have H1 : ((rubricklaw03_knows.f kj20).bind fun t147 => (some t147)) = some true := by rw [if_neg (show ¬ (false = true) by decide)] at H; exact H
           clear H
           have H := H1
           clear H1
           replace H := Option.bind_eq_some_iff.mp H
           obtain ⟨t147, A1320, H⟩ := H
           replace H : (some t147) = some true := H
           have A132 := Aside0.mk A1320
           clear A1320
           have HT2_ := Aside0.mk (Option.some.inj H)
           clear H
           try go_wp2_with (first | ((with_reducible refine gate_callee (f := 24) rfl ?_); refine goesL_ (some 81) rfl rfl Tryd.func24 (by kernel_rfl) rfl #[.string a2, .string a3] rfl (by (try simp only [List.map_toArray, List.map_cons, List.map_nil]) <;> rfl) ?_; (with_reducible refine (seal_Node.calls kj20 a2 a3 t122 t123 _ ?side1 A63.out).mono ?_); (case side1 => exact gw_step hG_ (by repeat (first | (with_reducible first | exact HB.out | apply below_alloc | apply pw_below_drewN | apply below_drew1 | refine below_set ?_ GE117.out) | exact HB.out))); rintro e w133 ⟨rfl, hb⟩; refine ⟨_, rfl, ?_⟩; have n0_ := Aside0.mk (HCmp.rB HO_118000.out hb); have n1_ := Aside0.mk (HCmp.rB HO_118001.out hb); have n2_ := Aside0.mk (HCmp.kB BK117.out hb); have n3_ := Aside0.mk (below_step (by repeat (first | (with_reducible first | exact HB.out | apply below_alloc | apply pw_below_drewN | apply below_drew1 | refine below_set ?_ GE117.out) | exact HB.out)) hb); clear HO_118000; clear HO_118001; clear BK117; clear HB; have HO_118000 := n0_; have HO_118001 := n1_; have BK117 := n2_; have HB := n3_; clear n0_ n1_ n2_ n3_; (try clear hb)) | ((with_reducible refine gate_callee (f := 24) rfl ?_); refine goesL_ (some 87) rfl rfl Tryd.func24 (by kernel_rfl) rfl #[.string a4, .string a5] rfl (by (try simp only [List.map_toArray, List.map_cons, List.map_nil]) <;> rfl) ?_; (with_reducible refine (seal_Node.calls kj20 a4 a5 t124 t125 _ ?side1 A64.out).mono ?_); (case side1 => exact gw_step hG_ (by repeat (first | (with_reducible first | exact HB.out | apply below_alloc | apply pw_below_drewN | apply below_drew1 | refine below_set ?_ GE117.out) | exact HB.out))); rintro e w134 ⟨rfl, hb⟩; refine ⟨_, rfl, ?_⟩; have n0_ := Aside0.mk (HCmp.rB HO_118000.out hb); have n1_ := Aside0.mk (HCmp.rB HO_118001.out hb); have n2_ := Aside0.mk (HCmp.kB BK117.out hb); have n3_ := Aside0.mk (below_step (by repeat (first | (with_reducible first | exact HB.out | apply below_alloc | apply pw_below_drewN | apply below_drew1 | refine below_set ?_ GE117.out) | exact HB.out)) hb); clear HO_118000; clear HO_118001; clear BK117; clear HB; have HO_118000 := n0_; have HO_118001 := n1_; have BK117 := n2_; have HB := n3_; clear n0_ n1_ n2_ n3_; (try clear hb)) | ((with_reducible refine gate_callee (f := 16) rfl ?_); refine goesL_ (some 93) rfl rfl Tryd.func16 (by kernel_rfl) rfl #[.string a2, .string a3] rfl (by (try simp only [List.map_toArray, List.map_cons, List.map_nil]) <;> rfl) ?_; (with_reducible refine (seal_NodeBytes.calls kj20 a2 a3 t126 _ A65.out).mono ?_); rintro e w135 ⟨v127, rfl, ho0, hb⟩; refine ⟨_, rfl, ?_⟩; have n0_ := Aside0.mk (Kd.R_elder' (by (with_reducible repeat (first | apply Kd.R_alloc | apply Kd.R_drewN | apply Kd.R_drew)); exact HO_118000.out) (Kd.R_base ho0) hb); have n1_ := Aside0.mk (Kd.R_elder' (by (with_reducible repeat (first | apply Kd.R_alloc | apply Kd.R_drewN | apply Kd.R_drew)); exact HO_118001.out) (Kd.R_base ho0) hb); have n2_ := Aside0.mk (Kd.R_lower (Kd.R_new' (Kd.R_new' ho0 (Kd.R_lt (by (with_reducible repeat (first | apply Kd.R_alloc | apply Kd.R_drewN | apply Kd.R_drew)); exact HO_118000.out))) (Kd.R_lt (by (with_reducible repeat (first | apply Kd.R_alloc | apply Kd.R_drewN | apply Kd.R_drew)); exact HO_118001.out))) (below_size (by repeat (first | (with_reducible first | exact HB.out | apply below_alloc | apply pw_below_drewN | apply below_drew1 | refine below_set ?_ GE117.out) | exact HB.out)))); have n3_ := Aside0.mk (HCmp.kB BK117.out hb); have n4_ := Aside0.mk (below_step (by repeat (first | (with_reducible first | exact HB.out | apply below_alloc | apply pw_below_drewN | apply below_drew1 | refine below_set ?_ GE117.out) | exact HB.out)) hb); clear HO_118000; clear HO_118001; clear BK117; clear HB; have HO_118000 := n0_; have HO_118001 := n1_; have HO128 := n2_; have BK117 := n3_; have HB := n4_; clear n0_ n1_ n2_ n3_ n4_; (try clear hb); (try clear ho0)) | ((with_reducible refine gate_callee (f := 16) rfl ?_); refine goesL_ (some 96) rfl rfl Tryd.func16 (by kernel_rfl) rfl #[.string a4, .string a5] rfl (by (try simp only [List.map_toArray, List.map_cons, List.map_nil]) <;> rfl) ?_; (with_reducible refine (seal_NodeBytes.calls kj20 a4 a5 t129 _ A66.out).mono ?_); rintro e w136 ⟨v130, rfl, ho0, hb⟩; refine ⟨_, rfl, ?_⟩; have n0_ := Aside0.mk (Kd.R_elder' (by (with_reducible repeat (first | apply Kd.R_alloc | apply Kd.R_drewN | apply Kd.R_drew)); exact HO_118000.out) (Kd.R_base ho0) hb); have n1_ := Aside0.mk (Kd.R_elder' (by (with_reducible repeat (first | apply Kd.R_alloc | apply Kd.R_drewN | apply Kd.R_drew)); exact HO_118001.out) (Kd.R_base ho0) hb); have n2_ := Aside0.mk (Kd.R_elder' (by (with_reducible repeat (first | apply Kd.R_alloc | apply Kd.R_drewN | apply Kd.R_drew)); exact HO128.out) (Kd.R_base ho0) hb); have n3_ := Aside0.mk (Kd.R_lower (Kd.R_new' (Kd.R_new' (Kd.R_new' ho0 (Kd.R_lt (by (with_reducible repeat (first | apply Kd.R_alloc | apply Kd.R_drewN | apply Kd.R_drew)); exact HO_118000.out))) (Kd.R_lt (by (with_reducible repeat (first | apply Kd.R_alloc | apply Kd.R_drewN | apply Kd.R_drew)); exact HO_118001.out))) (Kd.R_lt (by (with_reducible repeat (first | apply Kd.R_alloc | apply Kd.R_drewN | apply Kd.R_drew)); exact HO128.out))) (below_size (by repeat (first | (with_reducible first | exact HB.out | apply below_alloc | apply pw_below_drewN | apply below_drew1 | refine below_set ?_ GE117.out) | exact HB.out)))); have n4_ := Aside0.mk (HCmp.kB BK117.out hb); have n5_ := Aside0.mk (below_step (by repeat (first | (with_reducible first | exact HB.out | apply below_alloc | apply pw_below_drewN | apply below_drew1 | refine below_set ?_ GE117.out) | exact HB.out)) hb); clear HO_118000; clear HO_118001; clear HO128; clear BK117; clear HB; have HO_118000 := n0_; have HO_118001 := n1_; have HO128 := n2_; have HO131 := n3_; have BK117 := n4_; have HB := n5_; clear n0_ n1_ n2_ n3_ n4_ n5_; (try clear hb); (try clear ho0); obtain ⟨Ao137, co137, eo137⟩ := Kd.R_slice HO128.out; subst eo137; obtain ⟨Ao138, co138, eo138⟩ := Kd.R_slice HO131.out; subst eo138) | ((with_reducible refine gate_callee (f := 36) rfl ?_); refine goesL_ (some 97) rfl rfl Tryd.func36 (by kernel_rfl) rfl #[.slice Ao137 t126.length co137, .slice Ao138 t129.length co138] rfl (by (try simp only [List.map_toArray, List.map_cons, List.map_nil]) <;> rfl) ?_; (with_reducible refine (seal_Between.calls _ _ t126 _ _ t129 t132 t135 false _ ?side5 ?side1 ?side2 ?side3 ?side4 A67.out).mono ?_); (case side1 => repeat (first | exact (Kd.R_reads' HO128.out).2.2 | (with_reducible refine Kd.C_alloc ?_ _) | (with_reducible refine Kd.C_drewN ?_ _) | (with_reducible refine Kd.C_drew ?_))); (case side2 => exact (Kd.R_reads' HO128.out).2.1); (case side3 => repeat (first | exact (Kd.R_reads' HO131.out).2.2 | (with_reducible refine Kd.C_alloc ?_ _) | (with_reducible refine Kd.C_drewN ?_ _) | (with_reducible refine Kd.C_drew ?_))); (case side4 => exact (Kd.R_reads' HO131.out).2.1); (case side5 => exact gw_step hG_ (by repeat (first | (with_reducible first | exact HB.out | apply below_alloc | apply pw_below_drewN | apply below_drew1 | refine below_set ?_ GE117.out) | exact HB.out))); rintro e w139 ⟨v133, v136, rfl, ho0, ho1, hb⟩; refine ⟨_, rfl, ?_⟩; have n0_ := Aside0.mk (Kd.R_mono (Kd.R_told (Kd.R_told (Kd.R_old (by (with_reducible repeat (first | apply Kd.R_alloc | apply Kd.R_drewN | apply Kd.R_drew)); exact HO_118000.out) hb) (Kd.R_base ho0)) (Kd.R_base ho1)) (fun _ h_ => h_.1)); have n1_ := Aside0.mk (Kd.R_mono (Kd.R_told (Kd.R_told (Kd.R_old (by (with_reducible repeat (first | apply Kd.R_alloc | apply Kd.R_drewN | apply Kd.R_drew)); exact HO_118001.out) hb) (Kd.R_base ho0)) (Kd.R_base ho1)) (fun _ h_ => h_.1)); have n2_ := Aside0.mk (Kd.R_mono (Kd.R_told (Kd.R_told (Kd.R_old (by (with_reducible repeat (first | apply Kd.R_alloc | apply Kd.R_drewN | apply Kd.R_drew)); exact HO128.out) hb) (Kd.R_base ho0)) (Kd.R_base ho1)) (fun _ h_ => h_.1)); have n3_ := Aside0.mk (Kd.R_mono (Kd.R_told (Kd.R_told (Kd.R_old (by (with_reducible repeat (first | apply Kd.R_alloc | apply Kd.R_drewN | apply Kd.R_drew)); exact HO131.out) hb) (Kd.R_base ho0)) (Kd.R_base ho1)) (fun _ h_ => h_.1)); have n4_ := Aside0.mk (Kd.R_lower (Kd.R_new' (Kd.R_new' (Kd.R_new' (Kd.R_new' ho0 (Kd.R_lt (by (with_reducible repeat (first | apply Kd.R_alloc | apply Kd.R_drewN | apply Kd.R_drew)); exact HO_118000.out))) (Kd.R_lt (by (with_reducible repeat (first | apply Kd.R_alloc | apply Kd.R_drewN | apply Kd.R_drew)); exact HO_118001.out))) (Kd.R_lt (by (with_reducible repeat (first | apply Kd.R_alloc | apply Kd.R_drewN | apply Kd.R_drew)); exact HO128.out))) (Kd.R_lt (by (with_reducible repeat (first | apply Kd.R_alloc | apply Kd.R_drewN | apply Kd.R_drew)); exact HO131.out))) (below_size (by repeat (first | (with_reducible first | exact HB.out | apply below_alloc | apply pw_below_drewN | apply below_drew1 | refine below_set ?_ GE117.out) | exact HB.out)))); have n5_ := Aside0.mk (Kd.R_lower (Kd.R_new' (Kd.R_new' (Kd.R_new' (Kd.R_new' ho1 (Kd.R_lt (by (with_reducible repeat (first | apply Kd.R_alloc | apply Kd.R_drewN | apply Kd.R_drew)); exact HO_118000.out))) (Kd.R_lt (by (with_reducible repeat (first | apply Kd.R_alloc | apply Kd.R_drewN | apply Kd.R_drew)); exact HO_118001.out))) (Kd.R_lt (by (with_reducible repeat (first | apply Kd.R_alloc | apply Kd.R_drewN | apply Kd.R_drew)); exact HO128.out))) (Kd.R_lt (by (with_reducible repeat (first | apply Kd.R_alloc | apply Kd.R_drewN | apply Kd.R_drew)); exact HO131.out))) (below_size (by repeat (first | (with_reducible first | exact HB.out | apply below_alloc | apply pw_below_drewN | apply below_drew1 | refine below_set ?_ GE117.out) | exact HB.out)))); have n6_ := Aside0.mk (HCmp.kB BK117.out hb); have n7_ := Aside0.mk (below_step (by repeat (first | (with_reducible first | exact HB.out | apply below_alloc | apply pw_below_drewN | apply below_drew1 | refine below_set ?_ GE117.out) | exact HB.out)) hb); clear HO_118000; clear HO_118001; clear HO128; clear HO131; clear BK117; clear HB; have HO_118000 := n0_; have HO_118001 := n1_; have HO128 := n2_; have HO131 := n3_; have HO134 := n4_; have HO137 := n5_; have BK117 := n6_; have HB := n7_; clear n0_ n1_ n2_ n3_ n4_ n5_ n6_ n7_; (try clear hb); (try clear ho0); (try clear ho1)) | ((with_reducible refine gate_dst (N := 19) rfl ?_); (try (refine gate_guard (by rfl) ?_; dsimp only)); refine box_event ?hg (N := 19) ?hd (cs := #[.slice none 0 0, .slice none 0 0]) (t := 53) ?hr ?_; (case hd => rfl); (case hg => rfl); (case hr => first | (go_simp; done) | (go_simp; rfl)); intro gb139 hg w140 hbox hb; have n0_ := Aside0.mk (HCmp.rB HO_118000.out hb); have n1_ := Aside0.mk (HCmp.rB HO_118001.out hb); have n2_ := Aside0.mk (HCmp.rB HO128.out hb); have n3_ := Aside0.mk (HCmp.rB HO131.out hb); have n4_ := Aside0.mk (HCmp.rB HO134.out hb); have n5_ := Aside0.mk (HCmp.rB HO137.out hb); have n6_ := Aside0.mk (HCmp.kB BK117.out hb); have n7_ := Aside0.mk (below_step (by repeat (first | (with_reducible first | exact HB.out | apply below_alloc | apply pw_below_drewN | apply below_drew1 | refine below_set ?_ GE117.out) | exact HB.out)) hb); have n8_ := Aside0.mk (hbox); have n9_ := Aside0.mk ((by rw [hg]; exact (below_size (by repeat (first | (with_reducible first | exact HB.out | apply below_alloc | apply pw_below_drewN | apply below_drew1 | refine below_set ?_ GE117.out) | exact HB.out))) : w.heap.size ≤ gb139)); have n10_ := Aside0.mk ((by rw [hg]; exact (below_size (by repeat (first | (with_reducible first | exact HB.out | apply below_alloc | apply pw_below_drewN | apply below_drew1 | refine below_set ?_ GE117.out) | exact HB.out))) : w.heap.size ≤ gb139)); have n11_ := Aside0.mk ((by rw [hg]; exact Nat.ne_of_lt (blk_lt (g := gb117) (o := .cells #[.slice Ao28 t110.length co28, .slice Ao30 t113.length co30] 53 (0, 0)) (by (with_reducible repeat (first | refine blk_drewN ?_ _ | refine blk_drew ?_ | refine blk_alloc ?_ _)); exact BK117.out)) : gb117 ≠ gb139)); have n12_ := Aside0.mk ((by rw [hg]; exact Nat.ne_of_gt (blk_lt (g := gb117) (o := .cells #[.slice Ao28 t110.length co28, .slice Ao30 t113.length co30] 53 (0, 0)) (by (with_reducible repeat (first | refine blk_drewN ?_ _ | refine blk_drew ?_ | refine blk_alloc ?_ _)); exact BK117.out)) : gb139 ≠ gb117)); clear HO_118000; clear HO_118001; clear HO128; clear HO131; clear HO134; clear HO137; clear BK117; clear HB; have HO_118000 := n0_; have HO_118001 := n1_; have HO128 := n2_; have HO131 := n3_; have HO134 := n4_; have HO137 := n5_; have BK117 := n6_; have HB := n7_; have BK139 := n8_; have GW139 := n9_; have GE139 := n10_; have NB117_139 := n11_; have NB139_117 := n12_; clear n0_ n1_ n2_ n3_ n4_ n5_ n6_ n7_ n8_ n9_ n10_ n11_ n12_; clear hb hbox hg; obtain ⟨Ao141, co141, eo141⟩ := Kd.R_slice HO134.out; subst eo141; have hnb142 := NB139_117.out; have hnc142 := NB117_139.out; have hcz143_0 : w140.cell? ⟨gb139, 0, none⟩ = some (.slice none 0 0) := (blk_cell BK139.out 0).trans rfl; have hcz143_1 : w140.cell? ⟨gb139, 1, none⟩ = some (.slice none 0 0) := (blk_cell BK139.out 1).trans rfl; have hfz143_0 := blk_frozen BK139.out 0; have hfz143_1 := blk_frozen BK139.out 1; obtain ⟨Ao144, co144, eo144⟩ := Kd.R_slice HO137.out; subst eo144))
           have n0_ : Aside0 (Kd.R (Kd.int .u8) 5 ((w140.setCell ⟨gb139, 0, none⟩ (.slice Ao141 t132.length co141)).setCell ⟨gb139, 1, none⟩ (.slice Ao144 t135.length co144)) w.heap.size (fun k_ => some k_ ≠ (.slice Ao30 t113.length co30 : Value).ownBlock ∧ some k_ ≠ (.slice Ao137 t126.length co137 : Value).ownBlock ∧ some k_ ≠ (.slice Ao138 t129.length co138 : Value).ownBlock ∧ some k_ ≠ (.slice Ao141 t132.length co141 : Value).ownBlock ∧ some k_ ≠ (.slice Ao144 t135.length co144 : Value).ownBlock) (.slice Ao28 t110.length co28) t110) := ⟨by (with_reducible repeat (first | apply Kd.R_alloc | apply Kd.R_drewN | apply Kd.R_drew)); exact Kd.R_mono (Kd.R_far (p := ⟨gb139, 1, none⟩) (Kd.R_far (p := ⟨gb139, 0, none⟩) (Kd.R_types HO_118000.out BK139.out (by decide)) (fun _ hk => hk.2) (.slice Ao141 t132.length co141)) (fun _ hk => hk.2) (.slice Ao144 t135.length co144)) (fun _ hk => ⟨hk.1.1.1.1.1, ⟨hk.1.1.1.1.2, ⟨hk.1.1.1.2, ⟨hk.1.1.2, hk.1.2⟩⟩⟩⟩)⟩
           have n1_ : Aside0 (Kd.R (Kd.int .u8) 5 ((w140.setCell ⟨gb139, 0, none⟩ (.slice Ao141 t132.length co141)).setCell ⟨gb139, 1, none⟩ (.slice Ao144 t135.length co144)) w.heap.size (fun k_ => some k_ ≠ (.slice Ao28 t110.length co28 : Value).ownBlock ∧ some k_ ≠ (.slice Ao137 t126.length co137 : Value).ownBlock ∧ some k_ ≠ (.slice Ao138 t129.length co138 : Value).ownBlock ∧ some k_ ≠ (.slice Ao141 t132.length co141 : Value).ownBlock ∧ some k_ ≠ (.slice Ao144 t135.length co144 : Value).ownBlock) (.slice Ao30 t113.length co30) t113) := ⟨by (with_reducible repeat (first | apply Kd.R_alloc | apply Kd.R_drewN | apply Kd.R_drew)); exact Kd.R_mono (Kd.R_far (p := ⟨gb139, 1, none⟩) (Kd.R_far (p := ⟨gb139, 0, none⟩) (Kd.R_types HO_118001.out BK139.out (by decide)) (fun _ hk => hk.2) (.slice Ao141 t132.length co141)) (fun _ hk => hk.2) (.slice Ao144 t135.length co144)) (fun _ hk => ⟨hk.1.1.1.1.1, ⟨hk.1.1.1.1.2, ⟨hk.1.1.1.2, ⟨hk.1.1.2, hk.1.2⟩⟩⟩⟩)⟩
           have n2_ : Aside0 (Kd.R (Kd.int .u8) 5 ((w140.setCell ⟨gb139, 0, none⟩ (.slice Ao141 t132.length co141)).setCell ⟨gb139, 1, none⟩ (.slice Ao144 t135.length co144)) w.heap.size (fun k_ => some k_ ≠ (.slice Ao28 t110.length co28 : Value).ownBlock ∧ some k_ ≠ (.slice Ao30 t113.length co30 : Value).ownBlock ∧ some k_ ≠ (.slice Ao138 t129.length co138 : Value).ownBlock ∧ some k_ ≠ (.slice Ao141 t132.length co141 : Value).ownBlock ∧ some k_ ≠ (.slice Ao144 t135.length co144 : Value).ownBlock) (.slice Ao137 t126.length co137) t126) := ⟨by (with_reducible repeat (first | apply Kd.R_alloc | apply Kd.R_drewN | apply Kd.R_drew)); exact Kd.R_mono (Kd.R_far (p := ⟨gb139, 1, none⟩) (Kd.R_far (p := ⟨gb139, 0, none⟩) (Kd.R_types HO128.out BK139.out (by decide)) (fun _ hk => hk.2) (.slice Ao141 t132.length co141)) (fun _ hk => hk.2) (.slice Ao144 t135.length co144)) (fun _ hk => ⟨hk.1.1.1.1.1.2, ⟨hk.1.1.1.1.2, ⟨hk.1.1.1.2, ⟨hk.1.1.2, hk.1.2⟩⟩⟩⟩)⟩
           have n3_ : Aside0 (Kd.R (Kd.int .u8) 5 ((w140.setCell ⟨gb139, 0, none⟩ (.slice Ao141 t132.length co141)).setCell ⟨gb139, 1, none⟩ (.slice Ao144 t135.length co144)) w.heap.size (fun k_ => some k_ ≠ (.slice Ao28 t110.length co28 : Value).ownBlock ∧ some k_ ≠ (.slice Ao30 t113.length co30 : Value).ownBlock ∧ some k_ ≠ (.slice Ao137 t126.length co137 : Value).ownBlock ∧ some k_ ≠ (.slice Ao141 t132.length co141 : Value).ownBlock ∧ some k_ ≠ (.slice Ao144 t135.length co144 : Value).ownBlock) (.slice Ao138 t129.length co138) t129) := ⟨by (with_reducible repeat (first | apply Kd.R_alloc | apply Kd.R_drewN | apply Kd.R_drew)); exact Kd.R_mono (Kd.R_far (p := ⟨gb139, 1, none⟩) (Kd.R_far (p := ⟨gb139, 0, none⟩) (Kd.R_types HO131.out BK139.out (by decide)) (fun _ hk => hk.2) (.slice Ao141 t132.length co141)) (fun _ hk => hk.2) (.slice Ao144 t135.length co144)) (fun _ hk => ⟨hk.1.1.1.1.1.2, ⟨hk.1.1.1.1.2, ⟨hk.1.1.1.2, ⟨hk.1.1.2, hk.1.2⟩⟩⟩⟩)⟩
           have n4_ : Aside0 (Kd.R (Kd.int .u8) 5 ((w140.setCell ⟨gb139, 0, none⟩ (.slice Ao141 t132.length co141)).setCell ⟨gb139, 1, none⟩ (.slice Ao144 t135.length co144)) w.heap.size (fun k_ => some k_ ≠ (.slice Ao28 t110.length co28 : Value).ownBlock ∧ some k_ ≠ (.slice Ao30 t113.length co30 : Value).ownBlock ∧ some k_ ≠ (.slice Ao137 t126.length co137 : Value).ownBlock ∧ some k_ ≠ (.slice Ao138 t129.length co138 : Value).ownBlock ∧ some k_ ≠ (.slice Ao144 t135.length co144 : Value).ownBlock) (.slice Ao141 t132.length co141) t132) := ⟨by (with_reducible repeat (first | apply Kd.R_alloc | apply Kd.R_drewN | apply Kd.R_drew)); exact Kd.R_mono (Kd.R_far (p := ⟨gb139, 1, none⟩) (Kd.R_far (p := ⟨gb139, 0, none⟩) (Kd.R_types HO134.out BK139.out (by decide)) (fun _ hk => hk.2) (.slice Ao141 t132.length co141)) (fun _ hk => hk.2) (.slice Ao144 t135.length co144)) (fun _ hk => ⟨hk.1.1.1.1.2, ⟨hk.1.1.1.2, ⟨hk.1.1.2, ⟨hk.1.2, hk.1.1.1.1.1⟩⟩⟩⟩)⟩
           have n5_ : Aside0 (Kd.R (Kd.int .u8) 5 ((w140.setCell ⟨gb139, 0, none⟩ (.slice Ao141 t132.length co141)).setCell ⟨gb139, 1, none⟩ (.slice Ao144 t135.length co144)) w.heap.size (fun k_ => some k_ ≠ (.slice Ao28 t110.length co28 : Value).ownBlock ∧ some k_ ≠ (.slice Ao30 t113.length co30 : Value).ownBlock ∧ some k_ ≠ (.slice Ao137 t126.length co137 : Value).ownBlock ∧ some k_ ≠ (.slice Ao138 t129.length co138 : Value).ownBlock ∧ some k_ ≠ (.slice Ao141 t132.length co141 : Value).ownBlock) (.slice Ao144 t135.length co144) t135) := ⟨by (with_reducible repeat (first | apply Kd.R_alloc | apply Kd.R_drewN | apply Kd.R_drew)); exact Kd.R_mono (Kd.R_far (p := ⟨gb139, 1, none⟩) (Kd.R_far (p := ⟨gb139, 0, none⟩) (Kd.R_types HO137.out BK139.out (by decide)) (fun _ hk => hk.2) (.slice Ao141 t132.length co141)) (fun _ hk => hk.2) (.slice Ao144 t135.length co144)) (fun _ hk => ⟨hk.1.1.1.1.2, ⟨hk.1.1.1.2, ⟨hk.1.1.2, ⟨hk.1.2, hk.1.1.1.1.1⟩⟩⟩⟩)⟩
           have n6_ : Aside0 (((w140.setCell ⟨gb139, 0, none⟩ (.slice Ao141 t132.length co141)).setCell ⟨gb139, 1, none⟩ (.slice Ao144 t135.length co144)).heap[gb117]? = some (.cells #[.slice Ao28 t110.length co28, .slice Ao30 t113.length co30] 53 (0, 0))) := ⟨by (with_reducible repeat (first | refine blk_drewN ?_ _ | refine blk_drew ?_ | refine blk_alloc ?_ _)); refine blk_far ?_ NB117_139.out _; (with_reducible repeat (first | refine blk_drewN ?_ _ | refine blk_drew ?_ | refine blk_alloc ?_ _)); refine blk_far ?_ NB117_139.out _; (with_reducible repeat (first | refine blk_drewN ?_ _ | refine blk_drew ?_ | refine blk_alloc ?_ _)); exact BK117.out⟩
           have n7_ : Aside0 (((w140.setCell ⟨gb139, 0, none⟩ (.slice Ao141 t132.length co141)).setCell ⟨gb139, 1, none⟩ (.slice Ao144 t135.length co144)).heap[gb139]? = some (.cells #[.slice Ao141 t132.length co141, .slice Ao144 t135.length co144] 53 (0, 0))) := ⟨by (with_reducible repeat (first | refine blk_drewN ?_ _ | refine blk_drew ?_ | refine blk_alloc ?_ _)); refine blk_put (cs := #[.slice Ao141 t132.length co141, .slice none 0 0]) ?_ 1 _ rfl; (with_reducible repeat (first | refine blk_drewN ?_ _ | refine blk_drew ?_ | refine blk_alloc ?_ _)); refine blk_put (cs := #[.slice none 0 0, .slice none 0 0]) ?_ 0 _ rfl; (with_reducible repeat (first | refine blk_drewN ?_ _ | refine blk_drew ?_ | refine blk_alloc ?_ _)); exact BK139.out⟩
           have n8_ : Aside0 (Below w.heap.size w ((w140.setCell ⟨gb139, 0, none⟩ (.slice Ao141 t132.length co141)).setCell ⟨gb139, 1, none⟩ (.slice Ao144 t135.length co144))) := ⟨by repeat (first | (with_reducible first | exact HB.out | apply below_alloc | apply pw_below_drewN | apply below_drew1 | refine below_set ?_ GE117.out | refine below_set ?_ GE139.out) | exact HB.out)⟩
           (try clear HO_118000)
           (try clear HO_118001)
           (try clear HO128)
           (try clear HO131)
           (try clear HO134)
           (try clear HO137)
           (try clear BK117)
           (try clear BK139)
           (try clear HB)
           generalize ((w140.setCell ⟨gb139, 0, none⟩ (.slice Ao141 t132.length co141)).setCell ⟨gb139, 1, none⟩ (.slice Ao144 t135.length co144)) = w145 at n0_ n1_ n2_ n3_ n4_ n5_ n6_ n7_ n8_ ⊢
           have HO_118000 := n0_
           have HO_118001 := n1_
           have HO128 := n2_
           have HO131 := n3_
           have HO134 := n4_
           have HO137 := n5_
           have BK117 := n6_
           have BK139 := n7_
           have HB := n8_
           clear n0_ n1_ n2_ n3_ n4_ n5_ n6_ n7_ n8_
           have n0_ := Aside0.mk (Kd.R_drew HO_118000.out)
           have n1_ := Aside0.mk (Kd.R_drew HO_118001.out)
           have n2_ := Aside0.mk (Kd.R_drew HO128.out)
           have n3_ := Aside0.mk (Kd.R_drew HO131.out)
           have n4_ := Aside0.mk (Kd.R_drew HO134.out)
           have n5_ := Aside0.mk (Kd.R_drew HO137.out)
           have n6_ := Aside0.mk (blk_drew BK117.out)
           have n7_ := Aside0.mk (blk_drew BK139.out)
           have n8_ := Aside0.mk (below_drew1 HB.out)
           clear HO_118000
           clear HO_118001
           clear HO128
           clear HO131
           clear HO134
           clear HO137
           clear BK117
           clear BK139
           clear HB
           have HO_118000 := n0_
           have HO_118001 := n1_
           have HO128 := n2_
           have HO131 := n3_
           have HO134 := n4_
           have HO137 := n5_
           have BK117 := n6_
           have BK139 := n7_
           have HB := n8_
           clear n0_ n1_ n2_ n3_ n4_ n5_ n6_ n7_ n8_
           refine start_ (n := 27) (S := fun w' => True) (ds := []) #[false, false, false, false, false, false, false, false, false, false, false, false, false, false, false, false, false, false, false, false, false, false, false, false, false, false, false] (by kernel_rfl) rfl rfl trivial (fun hHeld => ?_); refine with_tabW rubricklaw03_SealTwo.tab9 rubricklaw03_SealTwo.bits9 (fun HT_ HW_ => ?_)
           generalize w145.drew = w146 at HO_118000 HO_118001 HO128 HO131 HO134 HO137 BK117 BK139 HB hHeld ⊢
           refine HBulk.bulkT (fuel := 9) HT_.out HW_.out [(0, some 100, false), (1, some 101, false), (2, some 102, false), (3, some 103, false), (4, some 104, false), (5, some 105, false), (6, some 106, false), (7, some 107, false), (8, some 108, false), (9, some 109, false), (10, some 110, false), (11, some 111, false), (12, some 112, false), (13, some 113, false), (14, some 114, false), (15, some 115, false), (16, some 116, false), (17, some 117, false)] #[true, true, true, true, true, true, true, true, true, true, true, true, true, true, true, true, true, true, false, false, false, false, false, false, false, false, false] (a' := ?_) (by kernel_rfl) rfl hHeld ?_ ?_
           rotate_left
           ·repeat
             refine HBulk.RunsM.cons (v := ?_) (a1 := ?_) rfl rfl (fun _ _ _ h => h) (by rfl) ?_ ?_ ?_
             rotate_left
             ·intro w' hS_
              go_simp
              with_reducible rfl
             rotate_left
             ·simp only [Act.put, List.setIfInBounds_toArray, List.set_cons_zero, List.set_cons_succ, i64_w, i32_w]
              rfl
            exact HBulk.RunsM.nil
           refine pure_ (i := 18) (N := some 118) (v := undef) (a' := ?_) #[true, true, true, true, true, true, true, true, true, true, true, true, true, true, true, true, true, true, true, false, false, false, false, false, false, false, false] rfl rfl (any_of HT_.out (by kernel_rfl)) (fun _ _ _ h => h) (Or.inr ⟨by rfl, rfl⟩) ?_ ?_
           rotate_left
           ·simp only [Act.put, List.setIfInBounds_toArray, List.set_cons_zero, List.set_cons_succ, i64_w, i32_w]
            rfl
           refine pure_ (i := 19) (N := some 119) (v := undef) (a' := ?_) #[true, true, true, true, true, true, true, true, true, true, true, true, true, true, true, true, true, true, true, true, false, false, false, false, false, false, false] rfl rfl (any_of HT_.out (by kernel_rfl)) (fun _ _ _ h => h) (Or.inr ⟨by rfl, rfl⟩) ?_ ?_
           rotate_left
           ·simp only [Act.put, List.setIfInBounds_toArray, List.set_cons_zero, List.set_cons_succ, i64_w, i32_w]
            rfl
           refine pure_ (i := 20) (N := some 120) (v := undef) (a' := ?_) #[true, true, true, true, true, true, true, true, true, true, true, true, true, true, true, true, true, true, true, true, true, false, false, false, false, false, false] rfl rfl (any_of HT_.out (by kernel_rfl)) (fun _ _ _ h => h) (Or.inr ⟨by rfl, rfl⟩) ?_ ?_
           rotate_left
           ·simp only [Act.put, List.setIfInBounds_toArray, List.set_cons_zero, List.set_cons_succ, i64_w, i32_w]
            rfl
           refine pure_ (i := 21) (N := some 121) (v := undef) (a' := ?_) #[true, true, true, true, true, true, true, true, true, true, true, true, true, true, true, true, true, true, true, true, true, true, false, false, false, false, false] rfl rfl (any_of HT_.out (by kernel_rfl)) (fun _ _ _ h => h) (Or.inr ⟨by rfl, rfl⟩) ?_ ?_
           rotate_left
           ·simp only [Act.put, List.setIfInBounds_toArray, List.set_cons_zero, List.set_cons_succ, i64_w, i32_w]
            rfl
           refine pure_ (i := 22) (N := some 122) (v := undef) (a' := ?_) #[true, true, true, true, true, true, true, true, true, true, true, true, true, true, true, true, true, true, true, true, true, true, true, false, false, false, false] rfl rfl (any_of HT_.out (by kernel_rfl)) (fun _ _ _ h => h) (Or.inr ⟨by rfl, rfl⟩) ?_ ?_
           rotate_left
           ·simp only [Act.put, List.setIfInBounds_toArray, List.set_cons_zero, List.set_cons_succ, i64_w, i32_w]
            rfl
           refine pure_ (i := 23) (N := some 123) (v := undef) (a' := ?_) #[true, true, true, true, true, true, true, true, true, true, true, true, true, true, true, true, true, true, true, true, true, true, true, true, false, false, false] rfl rfl (any_of HT_.out (by kernel_rfl)) (fun _ _ _ h => h) (Or.inr ⟨by rfl, rfl⟩) ?_ ?_
           rotate_left
           ·simp only [Act.put, List.setIfInBounds_toArray, List.set_cons_zero, List.set_cons_succ, i64_w, i32_w]
            rfl
           refine pure_ (i := 24) (N := some 124) (v := undef) (a' := ?_) #[true, true, true, true, true, true, true, true, true, true, true, true, true, true, true, true, true, true, true, true, true, true, true, true, true, false, false] rfl rfl (any_of HT_.out (by kernel_rfl)) (fun _ _ _ h => h) (Or.inr ⟨by rfl, rfl⟩) ?_ ?_
           rotate_left
           ·simp only [Act.put, List.setIfInBounds_toArray, List.set_cons_zero, List.set_cons_succ, i64_w, i32_w]
            rfl
           refine HBulk.bulkT (fuel := 0) HT_.out HW_.out [(25, some 125, false), (26, some 126, false)] #[true, true, true, true, true, true, true, true, true, true, true, true, true, true, true, true, true, true, true, true, true, true, true, true, true, true, true] (a' := ?_) (by kernel_rfl) rfl hHeld ?_ ?_
           rotate_left
           ·repeat
             refine HBulk.RunsM.cons (v := ?_) (a1 := ?_) rfl rfl (fun _ _ _ h => h) (by rfl) ?_ ?_ ?_
             rotate_left
             ·intro w' hS_
              go_simp
              with_reducible rfl
             rotate_left
             ·simp only [Act.put, List.setIfInBounds_toArray, List.set_cons_zero, List.set_cons_succ, i64_w, i32_w]
              rfl
            exact HBulk.RunsM.nil
           refine done_ (done_of HT_.out (by kernel_rfl)) ?_
           try go_wp2_with (first | ((with_reducible refine gate_callee (f := 14) rfl ?_); refine goesL_ (some 127) rfl rfl Tryd.func14 (by kernel_rfl) rfl #[] rfl (by (try simp only [List.map_toArray, List.map_cons, List.map_nil]) <;> rfl) ?_; (with_reducible refine (rubricklaw03_knows.calls kj20  t147 _ ?side1 A132.out).mono ?_); (case side1 => exact gw_step hG_ (by repeat (first | (with_reducible first | exact HB.out | apply below_alloc | apply pw_below_drewN | apply below_drew1 | refine below_set ?_ GE117.out | refine below_set ?_ GE139.out) | exact HB.out))); rintro e w147 ⟨rfl, hb⟩; refine ⟨_, rfl, ?_⟩; have n0_ := Aside0.mk (HCmp.rB HO_118000.out hb); have n1_ := Aside0.mk (HCmp.rB HO_118001.out hb); have n2_ := Aside0.mk (HCmp.rB HO128.out hb); have n3_ := Aside0.mk (HCmp.rB HO131.out hb); have n4_ := Aside0.mk (HCmp.rB HO134.out hb); have n5_ := Aside0.mk (HCmp.rB HO137.out hb); have n6_ := Aside0.mk (HCmp.kB BK117.out hb); have n7_ := Aside0.mk (HCmp.kB BK139.out hb); have n8_ := Aside0.mk (below_step (by repeat (first | (with_reducible first | exact HB.out | apply below_alloc | apply pw_below_drewN | apply below_drew1 | refine below_set ?_ GE117.out | refine below_set ?_ GE139.out) | exact HB.out)) hb); clear HO_118000; clear HO_118001; clear HO128; clear HO131; clear HO134; clear HO137; clear BK117; clear BK139; clear HB; have HO_118000 := n0_; have HO_118001 := n1_; have HO128 := n2_; have HO131 := n3_; have HO134 := n4_; have HO137 := n5_; have BK117 := n6_; have BK139 := n7_; have HB := n8_; clear n0_ n1_ n2_ n3_ n4_ n5_ n6_ n7_ n8_; (try clear hb)))
           go_ret
           exact ⟨by first | rfl | (simp [errW_none, errW_some] <;> rfl) | exact congrArg (fun b_ : Bool => Ending.returned (Value.bool b_)) HT2_.out | (simp [*, errW_none, errW_some] <;> rfl), by repeat (first | (with_reducible first | exact HB.out | apply below_alloc | apply pw_below_drewN | apply below_drew1 | refine below_set ?_ GE117.out | refine below_set ?_ GE139.out) | exact HB.out)⟩
       ·rw [if_neg c68] at H
        have c68b0 : (a2.toList == a4.toList) = false := beq_eq_false_iff_ne.mpr c68
        have c68b1 : (a2.toList != a4.toList) = true := bne_iff_ne.mpr c68
        by_cases c148 : (t138 != (t122.toList == t124.toList)) = true
        ·rw [if_pos c148] at H
         have c148b0 : (t138 != (t122.toList == t124.toList)) = true := c148
         (try (have c148b1 : decide (t138 = (t122.toList == t124.toList)) = false := by simpa using c148))
         (try (have c148b2 : (t138 == (t122.toList == t124.toList)) = false := by simpa using c148))
         (try (have c148b3 : ¬ (t138 = (t122.toList == t124.toList)) := by simpa using c148))
         clear c148
         cases H
        ·rw [if_neg c148] at H
         have c148b0 : (t138 != (t122.toList == t124.toList)) = false := by simpa using c148
         (try (have c148b1 : decide (t138 = (t122.toList == t124.toList)) = true := by simpa using c148))
         (try (have c148b2 : (t138 == (t122.toList == t124.toList)) = true := by simpa using c148))
         clear c148
         by_cases c149 : t138 = true
         ·subst c149
          have H1 : ((rubrickref01_Sum.f kj20 t132).bind fun t148 => ((rubrickref01_Sum.f kj20 t135).bind fun t149 => (if t148.toList = t149.toList then ((rubricklaw03_knows.f kj20).bind fun t150 => (some t150)) else (some false)))) = some true := by rw [if_pos rfl] at H; exact H
          clear H
          have H := H1
          clear H1
          replace H := Option.bind_eq_some_iff.mp H
          obtain ⟨t148, A1500, H⟩ := H
          replace H : ((rubrickref01_Sum.f kj20 t135).bind fun t149 => (if t148.toList = t149.toList then ((rubricklaw03_knows.f kj20).bind fun t150 => (some t150)) else (some false))) = some true := H
          have A150 := Aside0.mk A1500
          clear A1500
          replace H := Option.bind_eq_some_iff.mp H
          obtain ⟨t149, A1510, H⟩ := H
          replace H : (if t148.toList = t149.toList then ((rubricklaw03_knows.f kj20).bind fun t150 => (some t150)) else (some false)) = some true := H
          have A151 := Aside0.mk A1510
          clear A1510
          by_cases c152 : t148.toList = t149.toList
          ·rw [if_pos c152] at H
           have c152b0 : (t148.toList == t149.toList) = true := beq_iff_eq.mpr c152
           have c152b1 : (t148.toList != t149.toList) = false := bne_eq_false_iff_eq.mpr c152
           clear c152
           replace H := Option.bind_eq_some_iff.mp H
           obtain ⟨t150, A1530, H⟩ := H
           replace H : (some t150) = some true := H
           have A153 := Aside0.mk A1530
           clear A1530
           have HT2_ := Aside0.mk (Option.some.inj H)
           clear H
           try go_wp2_with (first | ((with_reducible refine gate_callee (f := 24) rfl ?_); refine goesL_ (some 81) rfl rfl Tryd.func24 (by kernel_rfl) rfl #[.string a2, .string a3] rfl (by (try simp only [List.map_toArray, List.map_cons, List.map_nil]) <;> rfl) ?_; (with_reducible refine (seal_Node.calls kj20 a2 a3 t122 t123 _ ?side1 A63.out).mono ?_); (case side1 => exact gw_step hG_ (by repeat (first | (with_reducible first | exact HB.out | apply below_alloc | apply pw_below_drewN | apply below_drew1 | refine below_set ?_ GE117.out) | exact HB.out))); rintro e w154 ⟨rfl, hb⟩; refine ⟨_, rfl, ?_⟩; have n0_ := Aside0.mk (HCmp.rB HO_118000.out hb); have n1_ := Aside0.mk (HCmp.rB HO_118001.out hb); have n2_ := Aside0.mk (HCmp.kB BK117.out hb); have n3_ := Aside0.mk (below_step (by repeat (first | (with_reducible first | exact HB.out | apply below_alloc | apply pw_below_drewN | apply below_drew1 | refine below_set ?_ GE117.out) | exact HB.out)) hb); clear HO_118000; clear HO_118001; clear BK117; clear HB; have HO_118000 := n0_; have HO_118001 := n1_; have BK117 := n2_; have HB := n3_; clear n0_ n1_ n2_ n3_; (try clear hb)) | ((with_reducible refine gate_callee (f := 24) rfl ?_); refine goesL_ (some 87) rfl rfl Tryd.func24 (by kernel_rfl) rfl #[.string a4, .string a5] rfl (by (try simp only [List.map_toArray, List.map_cons, List.map_nil]) <;> rfl) ?_; (with_reducible refine (seal_Node.calls kj20 a4 a5 t124 t125 _ ?side1 A64.out).mono ?_); (case side1 => exact gw_step hG_ (by repeat (first | (with_reducible first | exact HB.out | apply below_alloc | apply pw_below_drewN | apply below_drew1 | refine below_set ?_ GE117.out) | exact HB.out))); rintro e w155 ⟨rfl, hb⟩; refine ⟨_, rfl, ?_⟩; have n0_ := Aside0.mk (HCmp.rB HO_118000.out hb); have n1_ := Aside0.mk (HCmp.rB HO_118001.out hb); have n2_ := Aside0.mk (HCmp.kB BK117.out hb); have n3_ := Aside0.mk (below_step (by repeat (first | (with_reducible first | exact HB.out | apply below_alloc | apply pw_below_drewN | apply below_drew1 | refine below_set ?_ GE117.out) | exact HB.out)) hb); clear HO_118000; clear HO_118001; clear BK117; clear HB; have HO_118000 := n0_; have HO_118001 := n1_; have BK117 := n2_; have HB := n3_; clear n0_ n1_ n2_ n3_; (try clear hb)) | ((with_reducible refine gate_callee (f := 16) rfl ?_); refine goesL_ (some 93) rfl rfl Tryd.func16 (by kernel_rfl) rfl #[.string a2, .string a3] rfl (by (try simp only [List.map_toArray, List.map_cons, List.map_nil]) <;> rfl) ?_; (with_reducible refine (seal_NodeBytes.calls kj20 a2 a3 t126 _ A65.out).mono ?_); rintro e w156 ⟨v127, rfl, ho0, hb⟩; refine ⟨_, rfl, ?_⟩; have n0_ := Aside0.mk (Kd.R_elder' (by (with_reducible repeat (first | apply Kd.R_alloc | apply Kd.R_drewN | apply Kd.R_drew)); exact HO_118000.out) (Kd.R_base ho0) hb); have n1_ := Aside0.mk (Kd.R_elder' (by (with_reducible repeat (first | apply Kd.R_alloc | apply Kd.R_drewN | apply Kd.R_drew)); exact HO_118001.out) (Kd.R_base ho0) hb); have n2_ := Aside0.mk (Kd.R_lower (Kd.R_new' (Kd.R_new' ho0 (Kd.R_lt (by (with_reducible repeat (first | apply Kd.R_alloc | apply Kd.R_drewN | apply Kd.R_drew)); exact HO_118000.out))) (Kd.R_lt (by (with_reducible repeat (first | apply Kd.R_alloc | apply Kd.R_drewN | apply Kd.R_drew)); exact HO_118001.out))) (below_size (by repeat (first | (with_reducible first | exact HB.out | apply below_alloc | apply pw_below_drewN | apply below_drew1 | refine below_set ?_ GE117.out) | exact HB.out)))); have n3_ := Aside0.mk (HCmp.kB BK117.out hb); have n4_ := Aside0.mk (below_step (by repeat (first | (with_reducible first | exact HB.out | apply below_alloc | apply pw_below_drewN | apply below_drew1 | refine below_set ?_ GE117.out) | exact HB.out)) hb); clear HO_118000; clear HO_118001; clear BK117; clear HB; have HO_118000 := n0_; have HO_118001 := n1_; have HO128 := n2_; have BK117 := n3_; have HB := n4_; clear n0_ n1_ n2_ n3_ n4_; (try clear hb); (try clear ho0)) | ((with_reducible refine gate_callee (f := 16) rfl ?_); refine goesL_ (some 96) rfl rfl Tryd.func16 (by kernel_rfl) rfl #[.string a4, .string a5] rfl (by (try simp only [List.map_toArray, List.map_cons, List.map_nil]) <;> rfl) ?_; (with_reducible refine (seal_NodeBytes.calls kj20 a4 a5 t129 _ A66.out).mono ?_); rintro e w157 ⟨v130, rfl, ho0, hb⟩; refine ⟨_, rfl, ?_⟩; have n0_ := Aside0.mk (Kd.R_elder' (by (with_reducible repeat (first | apply Kd.R_alloc | apply Kd.R_drewN | apply Kd.R_drew)); exact HO_118000.out) (Kd.R_base ho0) hb); have n1_ := Aside0.mk (Kd.R_elder' (by (with_reducible repeat (first | apply Kd.R_alloc | apply Kd.R_drewN | apply Kd.R_drew)); exact HO_118001.out) (Kd.R_base ho0) hb); have n2_ := Aside0.mk (Kd.R_elder' (by (with_reducible repeat (first | apply Kd.R_alloc | apply Kd.R_drewN | apply Kd.R_drew)); exact HO128.out) (Kd.R_base ho0) hb); have n3_ := Aside0.mk (Kd.R_lower (Kd.R_new' (Kd.R_new' (Kd.R_new' ho0 (Kd.R_lt (by (with_reducible repeat (first | apply Kd.R_alloc | apply Kd.R_drewN | apply Kd.R_drew)); exact HO_118000.out))) (Kd.R_lt (by (with_reducible repeat (first | apply Kd.R_alloc | apply Kd.R_drewN | apply Kd.R_drew)); exact HO_118001.out))) (Kd.R_lt (by (with_reducible repeat (first | apply Kd.R_alloc | apply Kd.R_drewN | apply Kd.R_drew)); exact HO128.out))) (below_size (by repeat (first | (with_reducible first | exact HB.out | apply below_alloc | apply pw_below_drewN | apply below_drew1 | refine below_set ?_ GE117.out) | exact HB.out)))); have n4_ := Aside0.mk (HCmp.kB BK117.out hb); have n5_ := Aside0.mk (below_step (by repeat (first | (with_reducible first | exact HB.out | apply below_alloc | apply pw_below_drewN | apply below_drew1 | refine below_set ?_ GE117.out) | exact HB.out)) hb); clear HO_118000; clear HO_118001; clear HO128; clear BK117; clear HB; have HO_118000 := n0_; have HO_118001 := n1_; have HO128 := n2_; have HO131 := n3_; have BK117 := n4_; have HB := n5_; clear n0_ n1_ n2_ n3_ n4_ n5_; (try clear hb); (try clear ho0); obtain ⟨Ao158, co158, eo158⟩ := Kd.R_slice HO128.out; subst eo158; obtain ⟨Ao159, co159, eo159⟩ := Kd.R_slice HO131.out; subst eo159) | ((with_reducible refine gate_callee (f := 36) rfl ?_); refine goesL_ (some 97) rfl rfl Tryd.func36 (by kernel_rfl) rfl #[.slice Ao158 t126.length co158, .slice Ao159 t129.length co159] rfl (by (try simp only [List.map_toArray, List.map_cons, List.map_nil]) <;> rfl) ?_; (with_reducible refine (seal_Between.calls _ _ t126 _ _ t129 t132 t135 true _ ?side5 ?side1 ?side2 ?side3 ?side4 A67.out).mono ?_); (case side1 => repeat (first | exact (Kd.R_reads' HO128.out).2.2 | (with_reducible refine Kd.C_alloc ?_ _) | (with_reducible refine Kd.C_drewN ?_ _) | (with_reducible refine Kd.C_drew ?_))); (case side2 => exact (Kd.R_reads' HO128.out).2.1); (case side3 => repeat (first | exact (Kd.R_reads' HO131.out).2.2 | (with_reducible refine Kd.C_alloc ?_ _) | (with_reducible refine Kd.C_drewN ?_ _) | (with_reducible refine Kd.C_drew ?_))); (case side4 => exact (Kd.R_reads' HO131.out).2.1); (case side5 => exact gw_step hG_ (by repeat (first | (with_reducible first | exact HB.out | apply below_alloc | apply pw_below_drewN | apply below_drew1 | refine below_set ?_ GE117.out) | exact HB.out))); rintro e w160 ⟨v133, v136, rfl, ho0, ho1, hb⟩; refine ⟨_, rfl, ?_⟩; have n0_ := Aside0.mk (Kd.R_mono (Kd.R_told (Kd.R_told (Kd.R_old (by (with_reducible repeat (first | apply Kd.R_alloc | apply Kd.R_drewN | apply Kd.R_drew)); exact HO_118000.out) hb) (Kd.R_base ho0)) (Kd.R_base ho1)) (fun _ h_ => h_.1)); have n1_ := Aside0.mk (Kd.R_mono (Kd.R_told (Kd.R_told (Kd.R_old (by (with_reducible repeat (first | apply Kd.R_alloc | apply Kd.R_drewN | apply Kd.R_drew)); exact HO_118001.out) hb) (Kd.R_base ho0)) (Kd.R_base ho1)) (fun _ h_ => h_.1)); have n2_ := Aside0.mk (Kd.R_mono (Kd.R_told (Kd.R_told (Kd.R_old (by (with_reducible repeat (first | apply Kd.R_alloc | apply Kd.R_drewN | apply Kd.R_drew)); exact HO128.out) hb) (Kd.R_base ho0)) (Kd.R_base ho1)) (fun _ h_ => h_.1)); have n3_ := Aside0.mk (Kd.R_mono (Kd.R_told (Kd.R_told (Kd.R_old (by (with_reducible repeat (first | apply Kd.R_alloc | apply Kd.R_drewN | apply Kd.R_drew)); exact HO131.out) hb) (Kd.R_base ho0)) (Kd.R_base ho1)) (fun _ h_ => h_.1)); have n4_ := Aside0.mk (Kd.R_lower (Kd.R_new' (Kd.R_new' (Kd.R_new' (Kd.R_new' ho0 (Kd.R_lt (by (with_reducible repeat (first | apply Kd.R_alloc | apply Kd.R_drewN | apply Kd.R_drew)); exact HO_118000.out))) (Kd.R_lt (by (with_reducible repeat (first | apply Kd.R_alloc | apply Kd.R_drewN | apply Kd.R_drew)); exact HO_118001.out))) (Kd.R_lt (by (with_reducible repeat (first | apply Kd.R_alloc | apply Kd.R_drewN | apply Kd.R_drew)); exact HO128.out))) (Kd.R_lt (by (with_reducible repeat (first | apply Kd.R_alloc | apply Kd.R_drewN | apply Kd.R_drew)); exact HO131.out))) (below_size (by repeat (first | (with_reducible first | exact HB.out | apply below_alloc | apply pw_below_drewN | apply below_drew1 | refine below_set ?_ GE117.out) | exact HB.out)))); have n5_ := Aside0.mk (Kd.R_lower (Kd.R_new' (Kd.R_new' (Kd.R_new' (Kd.R_new' ho1 (Kd.R_lt (by (with_reducible repeat (first | apply Kd.R_alloc | apply Kd.R_drewN | apply Kd.R_drew)); exact HO_118000.out))) (Kd.R_lt (by (with_reducible repeat (first | apply Kd.R_alloc | apply Kd.R_drewN | apply Kd.R_drew)); exact HO_118001.out))) (Kd.R_lt (by (with_reducible repeat (first | apply Kd.R_alloc | apply Kd.R_drewN | apply Kd.R_drew)); exact HO128.out))) (Kd.R_lt (by (with_reducible repeat (first | apply Kd.R_alloc | apply Kd.R_drewN | apply Kd.R_drew)); exact HO131.out))) (below_size (by repeat (first | (with_reducible first | exact HB.out | apply below_alloc | apply pw_below_drewN | apply below_drew1 | refine below_set ?_ GE117.out) | exact HB.out)))); have n6_ := Aside0.mk (HCmp.kB BK117.out hb); have n7_ := Aside0.mk (below_step (by repeat (first | (with_reducible first | exact HB.out | apply below_alloc | apply pw_below_drewN | apply below_drew1 | refine below_set ?_ GE117.out) | exact HB.out)) hb); clear HO_118000; clear HO_118001; clear HO128; clear HO131; clear BK117; clear HB; have HO_118000 := n0_; have HO_118001 := n1_; have HO128 := n2_; have HO131 := n3_; have HO134 := n4_; have HO137 := n5_; have BK117 := n6_; have HB := n7_; clear n0_ n1_ n2_ n3_ n4_ n5_ n6_ n7_; (try clear hb); (try clear ho0); (try clear ho1)) | ((with_reducible refine gate_dst (N := 19) rfl ?_); (try (refine gate_guard (by rfl) ?_; dsimp only)); refine box_event ?hg (N := 19) ?hd (cs := #[.slice none 0 0, .slice none 0 0]) (t := 53) ?hr ?_; (case hd => rfl); (case hg => rfl); (case hr => first | (go_simp; done) | (go_simp; rfl)); intro gb139 hg w161 hbox hb; have n0_ := Aside0.mk (HCmp.rB HO_118000.out hb); have n1_ := Aside0.mk (HCmp.rB HO_118001.out hb); have n2_ := Aside0.mk (HCmp.rB HO128.out hb); have n3_ := Aside0.mk (HCmp.rB HO131.out hb); have n4_ := Aside0.mk (HCmp.rB HO134.out hb); have n5_ := Aside0.mk (HCmp.rB HO137.out hb); have n6_ := Aside0.mk (HCmp.kB BK117.out hb); have n7_ := Aside0.mk (below_step (by repeat (first | (with_reducible first | exact HB.out | apply below_alloc | apply pw_below_drewN | apply below_drew1 | refine below_set ?_ GE117.out) | exact HB.out)) hb); have n8_ := Aside0.mk (hbox); have n9_ := Aside0.mk ((by rw [hg]; exact (below_size (by repeat (first | (with_reducible first | exact HB.out | apply below_alloc | apply pw_below_drewN | apply below_drew1 | refine below_set ?_ GE117.out) | exact HB.out))) : w.heap.size ≤ gb139)); have n10_ := Aside0.mk ((by rw [hg]; exact (below_size (by repeat (first | (with_reducible first | exact HB.out | apply below_alloc | apply pw_below_drewN | apply below_drew1 | refine below_set ?_ GE117.out) | exact HB.out))) : w.heap.size ≤ gb139)); have n11_ := Aside0.mk ((by rw [hg]; exact Nat.ne_of_lt (blk_lt (g := gb117) (o := .cells #[.slice Ao28 t110.length co28, .slice Ao30 t113.length co30] 53 (0, 0)) (by (with_reducible repeat (first | refine blk_drewN ?_ _ | refine blk_drew ?_ | refine blk_alloc ?_ _)); exact BK117.out)) : gb117 ≠ gb139)); have n12_ := Aside0.mk ((by rw [hg]; exact Nat.ne_of_gt (blk_lt (g := gb117) (o := .cells #[.slice Ao28 t110.length co28, .slice Ao30 t113.length co30] 53 (0, 0)) (by (with_reducible repeat (first | refine blk_drewN ?_ _ | refine blk_drew ?_ | refine blk_alloc ?_ _)); exact BK117.out)) : gb139 ≠ gb117)); clear HO_118000; clear HO_118001; clear HO128; clear HO131; clear HO134; clear HO137; clear BK117; clear HB; have HO_118000 := n0_; have HO_118001 := n1_; have HO128 := n2_; have HO131 := n3_; have HO134 := n4_; have HO137 := n5_; have BK117 := n6_; have HB := n7_; have BK139 := n8_; have GW139 := n9_; have GE139 := n10_; have NB117_139 := n11_; have NB139_117 := n12_; clear n0_ n1_ n2_ n3_ n4_ n5_ n6_ n7_ n8_ n9_ n10_ n11_ n12_; clear hb hbox hg; obtain ⟨Ao162, co162, eo162⟩ := Kd.R_slice HO134.out; subst eo162; have hnb163 := NB139_117.out; have hnc163 := NB117_139.out; have hcz164_0 : w161.cell? ⟨gb139, 0, none⟩ = some (.slice none 0 0) := (blk_cell BK139.out 0).trans rfl; have hcz164_1 : w161.cell? ⟨gb139, 1, none⟩ = some (.slice none 0 0) := (blk_cell BK139.out 1).trans rfl; have hfz164_0 := blk_frozen BK139.out 0; have hfz164_1 := blk_frozen BK139.out 1; obtain ⟨Ao165, co165, eo165⟩ := Kd.R_slice HO137.out; subst eo165))
           have n0_ : Aside0 (Kd.R (Kd.int .u8) 5 ((w161.setCell ⟨gb139, 0, none⟩ (.slice Ao162 t132.length co162)).setCell ⟨gb139, 1, none⟩ (.slice Ao165 t135.length co165)) w.heap.size (fun k_ => some k_ ≠ (.slice Ao30 t113.length co30 : Value).ownBlock ∧ some k_ ≠ (.slice Ao158 t126.length co158 : Value).ownBlock ∧ some k_ ≠ (.slice Ao159 t129.length co159 : Value).ownBlock ∧ some k_ ≠ (.slice Ao162 t132.length co162 : Value).ownBlock ∧ some k_ ≠ (.slice Ao165 t135.length co165 : Value).ownBlock) (.slice Ao28 t110.length co28) t110) := ⟨by (with_reducible repeat (first | apply Kd.R_alloc | apply Kd.R_drewN | apply Kd.R_drew)); exact Kd.R_mono (Kd.R_far (p := ⟨gb139, 1, none⟩) (Kd.R_far (p := ⟨gb139, 0, none⟩) (Kd.R_types HO_118000.out BK139.out (by decide)) (fun _ hk => hk.2) (.slice Ao162 t132.length co162)) (fun _ hk => hk.2) (.slice Ao165 t135.length co165)) (fun _ hk => ⟨hk.1.1.1.1.1, ⟨hk.1.1.1.1.2, ⟨hk.1.1.1.2, ⟨hk.1.1.2, hk.1.2⟩⟩⟩⟩)⟩
           have n1_ : Aside0 (Kd.R (Kd.int .u8) 5 ((w161.setCell ⟨gb139, 0, none⟩ (.slice Ao162 t132.length co162)).setCell ⟨gb139, 1, none⟩ (.slice Ao165 t135.length co165)) w.heap.size (fun k_ => some k_ ≠ (.slice Ao28 t110.length co28 : Value).ownBlock ∧ some k_ ≠ (.slice Ao158 t126.length co158 : Value).ownBlock ∧ some k_ ≠ (.slice Ao159 t129.length co159 : Value).ownBlock ∧ some k_ ≠ (.slice Ao162 t132.length co162 : Value).ownBlock ∧ some k_ ≠ (.slice Ao165 t135.length co165 : Value).ownBlock) (.slice Ao30 t113.length co30) t113) := ⟨by (with_reducible repeat (first | apply Kd.R_alloc | apply Kd.R_drewN | apply Kd.R_drew)); exact Kd.R_mono (Kd.R_far (p := ⟨gb139, 1, none⟩) (Kd.R_far (p := ⟨gb139, 0, none⟩) (Kd.R_types HO_118001.out BK139.out (by decide)) (fun _ hk => hk.2) (.slice Ao162 t132.length co162)) (fun _ hk => hk.2) (.slice Ao165 t135.length co165)) (fun _ hk => ⟨hk.1.1.1.1.1, ⟨hk.1.1.1.1.2, ⟨hk.1.1.1.2, ⟨hk.1.1.2, hk.1.2⟩⟩⟩⟩)⟩
           have n2_ : Aside0 (Kd.R (Kd.int .u8) 5 ((w161.setCell ⟨gb139, 0, none⟩ (.slice Ao162 t132.length co162)).setCell ⟨gb139, 1, none⟩ (.slice Ao165 t135.length co165)) w.heap.size (fun k_ => some k_ ≠ (.slice Ao28 t110.length co28 : Value).ownBlock ∧ some k_ ≠ (.slice Ao30 t113.length co30 : Value).ownBlock ∧ some k_ ≠ (.slice Ao159 t129.length co159 : Value).ownBlock ∧ some k_ ≠ (.slice Ao162 t132.length co162 : Value).ownBlock ∧ some k_ ≠ (.slice Ao165 t135.length co165 : Value).ownBlock) (.slice Ao158 t126.length co158) t126) := ⟨by (with_reducible repeat (first | apply Kd.R_alloc | apply Kd.R_drewN | apply Kd.R_drew)); exact Kd.R_mono (Kd.R_far (p := ⟨gb139, 1, none⟩) (Kd.R_far (p := ⟨gb139, 0, none⟩) (Kd.R_types HO128.out BK139.out (by decide)) (fun _ hk => hk.2) (.slice Ao162 t132.length co162)) (fun _ hk => hk.2) (.slice Ao165 t135.length co165)) (fun _ hk => ⟨hk.1.1.1.1.1.2, ⟨hk.1.1.1.1.2, ⟨hk.1.1.1.2, ⟨hk.1.1.2, hk.1.2⟩⟩⟩⟩)⟩
           have n3_ : Aside0 (Kd.R (Kd.int .u8) 5 ((w161.setCell ⟨gb139, 0, none⟩ (.slice Ao162 t132.length co162)).setCell ⟨gb139, 1, none⟩ (.slice Ao165 t135.length co165)) w.heap.size (fun k_ => some k_ ≠ (.slice Ao28 t110.length co28 : Value).ownBlock ∧ some k_ ≠ (.slice Ao30 t113.length co30 : Value).ownBlock ∧ some k_ ≠ (.slice Ao158 t126.length co158 : Value).ownBlock ∧ some k_ ≠ (.slice Ao162 t132.length co162 : Value).ownBlock ∧ some k_ ≠ (.slice Ao165 t135.length co165 : Value).ownBlock) (.slice Ao159 t129.length co159) t129) := ⟨by (with_reducible repeat (first | apply Kd.R_alloc | apply Kd.R_drewN | apply Kd.R_drew)); exact Kd.R_mono (Kd.R_far (p := ⟨gb139, 1, none⟩) (Kd.R_far (p := ⟨gb139, 0, none⟩) (Kd.R_types HO131.out BK139.out (by decide)) (fun _ hk => hk.2) (.slice Ao162 t132.length co162)) (fun _ hk => hk.2) (.slice Ao165 t135.length co165)) (fun _ hk => ⟨hk.1.1.1.1.1.2, ⟨hk.1.1.1.1.2, ⟨hk.1.1.1.2, ⟨hk.1.1.2, hk.1.2⟩⟩⟩⟩)⟩
           have n4_ : Aside0 (Kd.R (Kd.int .u8) 5 ((w161.setCell ⟨gb139, 0, none⟩ (.slice Ao162 t132.length co162)).setCell ⟨gb139, 1, none⟩ (.slice Ao165 t135.length co165)) w.heap.size (fun k_ => some k_ ≠ (.slice Ao28 t110.length co28 : Value).ownBlock ∧ some k_ ≠ (.slice Ao30 t113.length co30 : Value).ownBlock ∧ some k_ ≠ (.slice Ao158 t126.length co158 : Value).ownBlock ∧ some k_ ≠ (.slice Ao159 t129.length co159 : Value).ownBlock ∧ some k_ ≠ (.slice Ao165 t135.length co165 : Value).ownBlock) (.slice Ao162 t132.length co162) t132) := ⟨by (with_reducible repeat (first | apply Kd.R_alloc | apply Kd.R_drewN | apply Kd.R_drew)); exact Kd.R_mono (Kd.R_far (p := ⟨gb139, 1, none⟩) (Kd.R_far (p := ⟨gb139, 0, none⟩) (Kd.R_types HO134.out BK139.out (by decide)) (fun _ hk => hk.2) (.slice Ao162 t132.length co162)) (fun _ hk => hk.2) (.slice Ao165 t135.length co165)) (fun _ hk => ⟨hk.1.1.1.1.2, ⟨hk.1.1.1.2, ⟨hk.1.1.2, ⟨hk.1.2, hk.1.1.1.1.1⟩⟩⟩⟩)⟩
           have n5_ : Aside0 (Kd.R (Kd.int .u8) 5 ((w161.setCell ⟨gb139, 0, none⟩ (.slice Ao162 t132.length co162)).setCell ⟨gb139, 1, none⟩ (.slice Ao165 t135.length co165)) w.heap.size (fun k_ => some k_ ≠ (.slice Ao28 t110.length co28 : Value).ownBlock ∧ some k_ ≠ (.slice Ao30 t113.length co30 : Value).ownBlock ∧ some k_ ≠ (.slice Ao158 t126.length co158 : Value).ownBlock ∧ some k_ ≠ (.slice Ao159 t129.length co159 : Value).ownBlock ∧ some k_ ≠ (.slice Ao162 t132.length co162 : Value).ownBlock) (.slice Ao165 t135.length co165) t135) := ⟨by (with_reducible repeat (first | apply Kd.R_alloc | apply Kd.R_drewN | apply Kd.R_drew)); exact Kd.R_mono (Kd.R_far (p := ⟨gb139, 1, none⟩) (Kd.R_far (p := ⟨gb139, 0, none⟩) (Kd.R_types HO137.out BK139.out (by decide)) (fun _ hk => hk.2) (.slice Ao162 t132.length co162)) (fun _ hk => hk.2) (.slice Ao165 t135.length co165)) (fun _ hk => ⟨hk.1.1.1.1.2, ⟨hk.1.1.1.2, ⟨hk.1.1.2, ⟨hk.1.2, hk.1.1.1.1.1⟩⟩⟩⟩)⟩
           have n6_ : Aside0 (((w161.setCell ⟨gb139, 0, none⟩ (.slice Ao162 t132.length co162)).setCell ⟨gb139, 1, none⟩ (.slice Ao165 t135.length co165)).heap[gb117]? = some (.cells #[.slice Ao28 t110.length co28, .slice Ao30 t113.length co30] 53 (0, 0))) := ⟨by (with_reducible repeat (first | refine blk_drewN ?_ _ | refine blk_drew ?_ | refine blk_alloc ?_ _)); refine blk_far ?_ NB117_139.out _; (with_reducible repeat (first | refine blk_drewN ?_ _ | refine blk_drew ?_ | refine blk_alloc ?_ _)); refine blk_far ?_ NB117_139.out _; (with_reducible repeat (first | refine blk_drewN ?_ _ | refine blk_drew ?_ | refine blk_alloc ?_ _)); exact BK117.out⟩
           have n7_ : Aside0 (((w161.setCell ⟨gb139, 0, none⟩ (.slice Ao162 t132.length co162)).setCell ⟨gb139, 1, none⟩ (.slice Ao165 t135.length co165)).heap[gb139]? = some (.cells #[.slice Ao162 t132.length co162, .slice Ao165 t135.length co165] 53 (0, 0))) := ⟨by (with_reducible repeat (first | refine blk_drewN ?_ _ | refine blk_drew ?_ | refine blk_alloc ?_ _)); refine blk_put (cs := #[.slice Ao162 t132.length co162, .slice none 0 0]) ?_ 1 _ rfl; (with_reducible repeat (first | refine blk_drewN ?_ _ | refine blk_drew ?_ | refine blk_alloc ?_ _)); refine blk_put (cs := #[.slice none 0 0, .slice none 0 0]) ?_ 0 _ rfl; (with_reducible repeat (first | refine blk_drewN ?_ _ | refine blk_drew ?_ | refine blk_alloc ?_ _)); exact BK139.out⟩
           have n8_ : Aside0 (Below w.heap.size w ((w161.setCell ⟨gb139, 0, none⟩ (.slice Ao162 t132.length co162)).setCell ⟨gb139, 1, none⟩ (.slice Ao165 t135.length co165))) := ⟨by repeat (first | (with_reducible first | exact HB.out | apply below_alloc | apply pw_below_drewN | apply below_drew1 | refine below_set ?_ GE117.out | refine below_set ?_ GE139.out) | exact HB.out)⟩
           (try clear HO_118000)
           (try clear HO_118001)
           (try clear HO128)
           (try clear HO131)
           (try clear HO134)
           (try clear HO137)
           (try clear BK117)
           (try clear BK139)
           (try clear HB)
           generalize ((w161.setCell ⟨gb139, 0, none⟩ (.slice Ao162 t132.length co162)).setCell ⟨gb139, 1, none⟩ (.slice Ao165 t135.length co165)) = w166 at n0_ n1_ n2_ n3_ n4_ n5_ n6_ n7_ n8_ ⊢
           have HO_118000 := n0_
           have HO_118001 := n1_
           have HO128 := n2_
           have HO131 := n3_
           have HO134 := n4_
           have HO137 := n5_
           have BK117 := n6_
           have BK139 := n7_
           have HB := n8_
           clear n0_ n1_ n2_ n3_ n4_ n5_ n6_ n7_ n8_
           have n0_ := Aside0.mk (Kd.R_drew HO_118000.out)
           have n1_ := Aside0.mk (Kd.R_drew HO_118001.out)
           have n2_ := Aside0.mk (Kd.R_drew HO128.out)
           have n3_ := Aside0.mk (Kd.R_drew HO131.out)
           have n4_ := Aside0.mk (Kd.R_drew HO134.out)
           have n5_ := Aside0.mk (Kd.R_drew HO137.out)
           have n6_ := Aside0.mk (blk_drew BK117.out)
           have n7_ := Aside0.mk (blk_drew BK139.out)
           have n8_ := Aside0.mk (below_drew1 HB.out)
           clear HO_118000
           clear HO_118001
           clear HO128
           clear HO131
           clear HO134
           clear HO137
           clear BK117
           clear BK139
           clear HB
           have HO_118000 := n0_
           have HO_118001 := n1_
           have HO128 := n2_
           have HO131 := n3_
           have HO134 := n4_
           have HO137 := n5_
           have BK117 := n6_
           have BK139 := n7_
           have HB := n8_
           clear n0_ n1_ n2_ n3_ n4_ n5_ n6_ n7_ n8_
           refine start_ (n := 27) (S := fun w' => w'.cell? ⟨gb139, 0, none⟩ = some (.slice Ao162 t132.length co162) ∧ w'.cell? ⟨gb139, 1, none⟩ = some (.slice Ao165 t135.length co165)) (ds := []) #[false, false, false, false, false, false, false, false, false, false, false, false, false, false, false, false, false, false, false, false, false, false, false, false, false, false, false] (by kernel_rfl) rfl rfl ⟨(blk_cell BK139.out 0).trans rfl, (blk_cell BK139.out 1).trans rfl⟩ (fun hHeld => ?_); refine with_tabW rubricklaw03_SealTwo.tab9 rubricklaw03_SealTwo.bits9 (fun HT_ HW_ => ?_)
           generalize w166.drew = w167 at HO_118000 HO_118001 HO128 HO131 HO134 HO137 BK117 BK139 HB hHeld ⊢
           refine HBulk.bulkT (fuel := 22) HT_.out HW_.out [(0, some 100, false), (1, some 101, false), (2, some 102, false), (3, some 103, false), (4, some 104, false)] #[true, true, true, true, true, false, false, false, false, false, false, false, false, false, false, false, false, false, false, false, false, false, false, false, false, false, false] (a' := ?_) (by kernel_rfl) rfl hHeld ?_ ?_
           rotate_left
           ·repeat
             refine HBulk.RunsM.cons (v := ?_) (a1 := ?_) rfl rfl (fun _ _ _ h => h) (by rfl) ?_ ?_ ?_
             rotate_left
             ·intro w' hS_
              go_simp
              with_reducible rfl
             rotate_left
             ·simp only [Act.put, List.setIfInBounds_toArray, List.set_cons_zero, List.set_cons_succ, i64_w, i32_w]
              rfl
            exact HBulk.RunsM.nil
           refine pure_ (i := 5) (N := some 105) (v := undef) (a' := ?_) #[true, true, true, true, true, true, false, false, false, false, false, false, false, false, false, false, false, false, false, false, false, false, false, false, false, false, false] rfl rfl (any_of HT_.out (by kernel_rfl)) (fun _ _ _ h => h) (Or.inr ⟨by rfl, rfl⟩) ?_ ?_
           rotate_left
           ·simp only [Act.put, List.setIfInBounds_toArray, List.set_cons_zero, List.set_cons_succ, i64_w, i32_w]
            rfl
           refine pure_ (i := 6) (N := some 106) (v := undef) (a' := ?_) #[true, true, true, true, true, true, true, false, false, false, false, false, false, false, false, false, false, false, false, false, false, false, false, false, false, false, false] rfl rfl (any_of HT_.out (by kernel_rfl)) (fun _ _ _ h => h) (Or.inr ⟨by rfl, rfl⟩) ?_ ?_
           rotate_left
           ·simp only [Act.put, List.setIfInBounds_toArray, List.set_cons_zero, List.set_cons_succ, i64_w, i32_w]
            rfl
           refine pure_ (i := 7) (N := some 107) (v := undef) (a' := ?_) #[true, true, true, true, true, true, true, true, false, false, false, false, false, false, false, false, false, false, false, false, false, false, false, false, false, false, false] rfl rfl (any_of HT_.out (by kernel_rfl)) (fun _ _ _ h => h) (Or.inr ⟨by rfl, rfl⟩) ?_ ?_
           rotate_left
           ·simp only [Act.put, List.setIfInBounds_toArray, List.set_cons_zero, List.set_cons_succ, i64_w, i32_w]
            rfl
           refine HBulk.bulkT (fuel := 5) HT_.out HW_.out [(8, some 108, false), (9, some 109, false), (10, some 110, false), (11, some 111, false), (12, some 112, false), (13, some 113, false), (14, some 114, false), (15, some 115, false), (16, some 116, false), (17, some 117, false), (18, some 118, false), (21, some 121, false), (19, some 119, true), (22, some 122, true)] #[true, true, true, true, true, true, true, true, true, true, true, true, true, true, true, true, true, true, true, true, false, true, true, false, false, false, false] (a' := ?_) (by kernel_rfl) rfl hHeld ?_ ?_
           rotate_left
           ·repeat
             refine HBulk.RunsM.cons (v := ?_) (a1 := ?_) rfl rfl (fun _ _ _ h => h) (by rfl) ?_ ?_ ?_
             rotate_left
             ·intro w' hS_; (try (obtain ⟨s0, s1⟩ := hS_ rfl))
              go_simp
              with_reducible rfl
             rotate_left
             ·simp only [Act.put, List.setIfInBounds_toArray, List.set_cons_zero, List.set_cons_succ, i64_w, i32_w]
              rfl
            exact HBulk.RunsM.nil
           refine one_ (i := 20) (N := some 120) #[true, true, true, true, true, true, true, true, true, true, true, true, true, true, true, true, true, true, true, true, true, true, true, false, false, false, false] rfl rfl (one_of HT_.out (by kernel_rfl)) (by decide) (fun K hK => ?_)
           refine goes_ Tryd.func28 (by kernel_rfl) rfl #[.slice Ao162 t132.length co162] (by rfl) rfl rfl (by (try simp only [List.map_toArray, List.map_cons, List.map_nil]) <;> rfl) ?_
           with_reducible refine (rubrickref01_Sum.calls kj20 _ _ t132 t148 _ ?side1 ?side2 A150.out).mono ?_
           (case side1 => repeat (first | exact (Kd.R_reads' HO134.out).2.2 | (with_reducible refine Kd.C_alloc ?_ _) | (with_reducible refine Kd.C_drewN ?_ _) | (with_reducible refine Kd.C_drew ?_)))
           (case side2 => exact (Kd.R_reads' HO134.out).2.1)
           rintro e w168 ⟨rfl, hb⟩
           refine ⟨_, rfl, ?_⟩
           have n0_ := Aside0.mk (HCmp.rB HO_118000.out hb)
           have n1_ := Aside0.mk (HCmp.rB HO_118001.out hb)
           have n2_ := Aside0.mk (HCmp.rB HO128.out hb)
           have n3_ := Aside0.mk (HCmp.rB HO131.out hb)
           have n4_ := Aside0.mk (HCmp.rB HO134.out hb)
           have n5_ := Aside0.mk (HCmp.rB HO137.out hb)
           have n6_ := Aside0.mk (HCmp.kB BK117.out hb)
           have n7_ := Aside0.mk (HCmp.kB BK139.out hb)
           have n8_ := Aside0.mk (below_step (by repeat (first | (with_reducible first | exact HB.out | apply below_alloc | apply pw_below_drewN | apply below_drew1 | refine below_set ?_ GE117.out | refine below_set ?_ GE139.out) | exact HB.out)) hb)
           clear HO_118000
           clear HO_118001
           clear HO128
           clear HO131
           clear HO134
           clear HO137
           clear BK117
           clear BK139
           clear HB
           have HO_118000 := n0_
           have HO_118001 := n1_
           have HO128 := n2_
           have HO131 := n3_
           have HO134 := n4_
           have HO137 := n5_
           have BK117 := n6_
           have BK139 := n7_
           have HB := n8_
           clear n0_ n1_ n2_ n3_ n4_ n5_ n6_ n7_ n8_
           (try clear hb)
           (try clear hb2)
           (try clear hk)
           (try clear hi)
           refine hK.out _ _ ⟨(blk_cell BK139.out 0).trans rfl, (blk_cell BK139.out 1).trans rfl⟩ (fun hHeld => ?_)
           clear hK K
           refine norm_ (a' := ?_) ?_ ?_
           rotate_left
           ·show Act.put _ (some 120) _ = _
            simp only [Act.put, List.setIfInBounds_toArray, List.set_cons_zero, List.set_cons_succ, i64_w, i32_w]
            rfl
           refine one_ (i := 23) (N := some 123) #[true, true, true, true, true, true, true, true, true, true, true, true, true, true, true, true, true, true, true, true, true, true, true, true, false, false, false] rfl rfl (one_of HT_.out (by kernel_rfl)) (by decide) (fun K hK => ?_)
           refine goes_ Tryd.func28 (by kernel_rfl) rfl #[.slice Ao165 t135.length co165] (by rfl) rfl rfl (by (try simp only [List.map_toArray, List.map_cons, List.map_nil]) <;> rfl) ?_
           with_reducible refine (rubrickref01_Sum.calls kj20 _ _ t135 t149 _ ?side1 ?side2 A151.out).mono ?_
           (case side1 => repeat (first | exact (Kd.R_reads' HO137.out).2.2 | (with_reducible refine Kd.C_alloc ?_ _) | (with_reducible refine Kd.C_drewN ?_ _) | (with_reducible refine Kd.C_drew ?_)))
           (case side2 => exact (Kd.R_reads' HO137.out).2.1)
           rintro e w169 ⟨rfl, hb⟩
           refine ⟨_, rfl, ?_⟩
           have n0_ := Aside0.mk (HCmp.rB HO_118000.out hb)
           have n1_ := Aside0.mk (HCmp.rB HO_118001.out hb)
           have n2_ := Aside0.mk (HCmp.rB HO128.out hb)
           have n3_ := Aside0.mk (HCmp.rB HO131.out hb)
           have n4_ := Aside0.mk (HCmp.rB HO134.out hb)
           have n5_ := Aside0.mk (HCmp.rB HO137.out hb)
           have n6_ := Aside0.mk (HCmp.kB BK117.out hb)
           have n7_ := Aside0.mk (HCmp.kB BK139.out hb)
           have n8_ := Aside0.mk (below_step (by repeat (first | (with_reducible first | exact HB.out | apply below_alloc | apply pw_below_drewN | apply below_drew1 | refine below_set ?_ GE117.out | refine below_set ?_ GE139.out) | exact HB.out)) hb)
           clear HO_118000
           clear HO_118001
           clear HO128
           clear HO131
           clear HO134
           clear HO137
           clear BK117
           clear BK139
           clear HB
           have HO_118000 := n0_
           have HO_118001 := n1_
           have HO128 := n2_
           have HO131 := n3_
           have HO134 := n4_
           have HO137 := n5_
           have BK117 := n6_
           have BK139 := n7_
           have HB := n8_
           clear n0_ n1_ n2_ n3_ n4_ n5_ n6_ n7_ n8_
           (try clear hb)
           (try clear hb2)
           (try clear hk)
           (try clear hi)
           refine hK.out _ _ ⟨(blk_cell BK139.out 0).trans rfl, (blk_cell BK139.out 1).trans rfl⟩ (fun hHeld => ?_)
           clear hK K
           refine norm_ (a' := ?_) ?_ ?_
           rotate_left
           ·show Act.put _ (some 123) _ = _
            simp only [Act.put, List.setIfInBounds_toArray, List.set_cons_zero, List.set_cons_succ, i64_w, i32_w]
            rfl
           refine HBulk.bulkT (fuel := 0) HT_.out HW_.out [(24, some 124, false), (25, some 125, false), (26, some 126, false)] #[true, true, true, true, true, true, true, true, true, true, true, true, true, true, true, true, true, true, true, true, true, true, true, true, true, true, true] (a' := ?_) (by kernel_rfl) rfl hHeld ?_ ?_
           rotate_left
           ·repeat
             refine HBulk.RunsM.cons (v := ?_) (a1 := ?_) rfl rfl (fun _ _ _ h => h) (by rfl) ?_ ?_ ?_
             rotate_left
             ·intro w' hS_
              go_simp
              with_reducible rfl
             rotate_left
             ·simp only [Act.put, List.setIfInBounds_toArray, List.set_cons_zero, List.set_cons_succ, i64_w, i32_w]
              rfl
            exact HBulk.RunsM.nil
           refine done_ (done_of HT_.out (by kernel_rfl)) ?_
           try go_wp2_with (first | ((with_reducible refine gate_callee (f := 14) rfl ?_); refine goesL_ (some 127) rfl rfl Tryd.func14 (by kernel_rfl) rfl #[] rfl (by (try simp only [List.map_toArray, List.map_cons, List.map_nil]) <;> rfl) ?_; (with_reducible refine (rubricklaw03_knows.calls kj20  t150 _ ?side1 A153.out).mono ?_); (case side1 => exact gw_step hG_ (by repeat (first | (with_reducible first | exact HB.out | apply below_alloc | apply pw_below_drewN | apply below_drew1 | refine below_set ?_ GE117.out | refine below_set ?_ GE139.out) | exact HB.out))); rintro e w170 ⟨rfl, hb⟩; refine ⟨_, rfl, ?_⟩; have n0_ := Aside0.mk (HCmp.rB HO_118000.out hb); have n1_ := Aside0.mk (HCmp.rB HO_118001.out hb); have n2_ := Aside0.mk (HCmp.rB HO128.out hb); have n3_ := Aside0.mk (HCmp.rB HO131.out hb); have n4_ := Aside0.mk (HCmp.rB HO134.out hb); have n5_ := Aside0.mk (HCmp.rB HO137.out hb); have n6_ := Aside0.mk (HCmp.kB BK117.out hb); have n7_ := Aside0.mk (HCmp.kB BK139.out hb); have n8_ := Aside0.mk (below_step (by repeat (first | (with_reducible first | exact HB.out | apply below_alloc | apply pw_below_drewN | apply below_drew1 | refine below_set ?_ GE117.out | refine below_set ?_ GE139.out) | exact HB.out)) hb); clear HO_118000; clear HO_118001; clear HO128; clear HO131; clear HO134; clear HO137; clear BK117; clear BK139; clear HB; have HO_118000 := n0_; have HO_118001 := n1_; have HO128 := n2_; have HO131 := n3_; have HO134 := n4_; have HO137 := n5_; have BK117 := n6_; have BK139 := n7_; have HB := n8_; clear n0_ n1_ n2_ n3_ n4_ n5_ n6_ n7_ n8_; (try clear hb)))
           go_ret
           exact ⟨by first | rfl | (simp [errW_none, errW_some] <;> rfl) | exact congrArg (fun b_ : Bool => Ending.returned (Value.bool b_)) HT2_.out | (simp [*, errW_none, errW_some] <;> rfl), by repeat (first | (with_reducible first | exact HB.out | apply below_alloc | apply pw_below_drewN | apply below_drew1 | refine below_set ?_ GE117.out | refine below_set ?_ GE139.out) | exact HB.out)⟩
          ·rw [if_neg c152] at H
           have c152b0 : (t148.toList == t149.toList) = false := beq_eq_false_iff_ne.mpr c152
           have c152b1 : (t148.toList != t149.toList) = true := bne_iff_ne.mpr c152
           cases H
         ·replace c149 := Bool.eq_false_iff.mpr c149
          subst c149
          have H1 : ((rubricklaw03_knows.f kj20).bind fun t151 => (some t151)) = some true := by rw [if_neg (show ¬ (false = true) by decide)] at H; exact H
          clear H
          have H := H1
          clear H1
          replace H := Option.bind_eq_some_iff.mp H
          obtain ⟨t151, A1710, H⟩ := H
          replace H : (some t151) = some true := H
          have A171 := Aside0.mk A1710
          clear A1710
          have HT2_ := Aside0.mk (Option.some.inj H)
          clear H
          try go_wp2_with (first | ((with_reducible refine gate_callee (f := 24) rfl ?_); refine goesL_ (some 81) rfl rfl Tryd.func24 (by kernel_rfl) rfl #[.string a2, .string a3] rfl (by (try simp only [List.map_toArray, List.map_cons, List.map_nil]) <;> rfl) ?_; (with_reducible refine (seal_Node.calls kj20 a2 a3 t122 t123 _ ?side1 A63.out).mono ?_); (case side1 => exact gw_step hG_ (by repeat (first | (with_reducible first | exact HB.out | apply below_alloc | apply pw_below_drewN | apply below_drew1 | refine below_set ?_ GE117.out) | exact HB.out))); rintro e w172 ⟨rfl, hb⟩; refine ⟨_, rfl, ?_⟩; have n0_ := Aside0.mk (HCmp.rB HO_118000.out hb); have n1_ := Aside0.mk (HCmp.rB HO_118001.out hb); have n2_ := Aside0.mk (HCmp.kB BK117.out hb); have n3_ := Aside0.mk (below_step (by repeat (first | (with_reducible first | exact HB.out | apply below_alloc | apply pw_below_drewN | apply below_drew1 | refine below_set ?_ GE117.out) | exact HB.out)) hb); clear HO_118000; clear HO_118001; clear BK117; clear HB; have HO_118000 := n0_; have HO_118001 := n1_; have BK117 := n2_; have HB := n3_; clear n0_ n1_ n2_ n3_; (try clear hb)) | ((with_reducible refine gate_callee (f := 24) rfl ?_); refine goesL_ (some 87) rfl rfl Tryd.func24 (by kernel_rfl) rfl #[.string a4, .string a5] rfl (by (try simp only [List.map_toArray, List.map_cons, List.map_nil]) <;> rfl) ?_; (with_reducible refine (seal_Node.calls kj20 a4 a5 t124 t125 _ ?side1 A64.out).mono ?_); (case side1 => exact gw_step hG_ (by repeat (first | (with_reducible first | exact HB.out | apply below_alloc | apply pw_below_drewN | apply below_drew1 | refine below_set ?_ GE117.out) | exact HB.out))); rintro e w173 ⟨rfl, hb⟩; refine ⟨_, rfl, ?_⟩; have n0_ := Aside0.mk (HCmp.rB HO_118000.out hb); have n1_ := Aside0.mk (HCmp.rB HO_118001.out hb); have n2_ := Aside0.mk (HCmp.kB BK117.out hb); have n3_ := Aside0.mk (below_step (by repeat (first | (with_reducible first | exact HB.out | apply below_alloc | apply pw_below_drewN | apply below_drew1 | refine below_set ?_ GE117.out) | exact HB.out)) hb); clear HO_118000; clear HO_118001; clear BK117; clear HB; have HO_118000 := n0_; have HO_118001 := n1_; have BK117 := n2_; have HB := n3_; clear n0_ n1_ n2_ n3_; (try clear hb)) | ((with_reducible refine gate_callee (f := 16) rfl ?_); refine goesL_ (some 93) rfl rfl Tryd.func16 (by kernel_rfl) rfl #[.string a2, .string a3] rfl (by (try simp only [List.map_toArray, List.map_cons, List.map_nil]) <;> rfl) ?_; (with_reducible refine (seal_NodeBytes.calls kj20 a2 a3 t126 _ A65.out).mono ?_); rintro e w174 ⟨v127, rfl, ho0, hb⟩; refine ⟨_, rfl, ?_⟩; have n0_ := Aside0.mk (Kd.R_elder' (by (with_reducible repeat (first | apply Kd.R_alloc | apply Kd.R_drewN | apply Kd.R_drew)); exact HO_118000.out) (Kd.R_base ho0) hb); have n1_ := Aside0.mk (Kd.R_elder' (by (with_reducible repeat (first | apply Kd.R_alloc | apply Kd.R_drewN | apply Kd.R_drew)); exact HO_118001.out) (Kd.R_base ho0) hb); have n2_ := Aside0.mk (Kd.R_lower (Kd.R_new' (Kd.R_new' ho0 (Kd.R_lt (by (with_reducible repeat (first | apply Kd.R_alloc | apply Kd.R_drewN | apply Kd.R_drew)); exact HO_118000.out))) (Kd.R_lt (by (with_reducible repeat (first | apply Kd.R_alloc | apply Kd.R_drewN | apply Kd.R_drew)); exact HO_118001.out))) (below_size (by repeat (first | (with_reducible first | exact HB.out | apply below_alloc | apply pw_below_drewN | apply below_drew1 | refine below_set ?_ GE117.out) | exact HB.out)))); have n3_ := Aside0.mk (HCmp.kB BK117.out hb); have n4_ := Aside0.mk (below_step (by repeat (first | (with_reducible first | exact HB.out | apply below_alloc | apply pw_below_drewN | apply below_drew1 | refine below_set ?_ GE117.out) | exact HB.out)) hb); clear HO_118000; clear HO_118001; clear BK117; clear HB; have HO_118000 := n0_; have HO_118001 := n1_; have HO128 := n2_; have BK117 := n3_; have HB := n4_; clear n0_ n1_ n2_ n3_ n4_; (try clear hb); (try clear ho0)) | ((with_reducible refine gate_callee (f := 16) rfl ?_); refine goesL_ (some 96) rfl rfl Tryd.func16 (by kernel_rfl) rfl #[.string a4, .string a5] rfl (by (try simp only [List.map_toArray, List.map_cons, List.map_nil]) <;> rfl) ?_; (with_reducible refine (seal_NodeBytes.calls kj20 a4 a5 t129 _ A66.out).mono ?_); rintro e w175 ⟨v130, rfl, ho0, hb⟩; refine ⟨_, rfl, ?_⟩; have n0_ := Aside0.mk (Kd.R_elder' (by (with_reducible repeat (first | apply Kd.R_alloc | apply Kd.R_drewN | apply Kd.R_drew)); exact HO_118000.out) (Kd.R_base ho0) hb); have n1_ := Aside0.mk (Kd.R_elder' (by (with_reducible repeat (first | apply Kd.R_alloc | apply Kd.R_drewN | apply Kd.R_drew)); exact HO_118001.out) (Kd.R_base ho0) hb); have n2_ := Aside0.mk (Kd.R_elder' (by (with_reducible repeat (first | apply Kd.R_alloc | apply Kd.R_drewN | apply Kd.R_drew)); exact HO128.out) (Kd.R_base ho0) hb); have n3_ := Aside0.mk (Kd.R_lower (Kd.R_new' (Kd.R_new' (Kd.R_new' ho0 (Kd.R_lt (by (with_reducible repeat (first | apply Kd.R_alloc | apply Kd.R_drewN | apply Kd.R_drew)); exact HO_118000.out))) (Kd.R_lt (by (with_reducible repeat (first | apply Kd.R_alloc | apply Kd.R_drewN | apply Kd.R_drew)); exact HO_118001.out))) (Kd.R_lt (by (with_reducible repeat (first | apply Kd.R_alloc | apply Kd.R_drewN | apply Kd.R_drew)); exact HO128.out))) (below_size (by repeat (first | (with_reducible first | exact HB.out | apply below_alloc | apply pw_below_drewN | apply below_drew1 | refine below_set ?_ GE117.out) | exact HB.out)))); have n4_ := Aside0.mk (HCmp.kB BK117.out hb); have n5_ := Aside0.mk (below_step (by repeat (first | (with_reducible first | exact HB.out | apply below_alloc | apply pw_below_drewN | apply below_drew1 | refine below_set ?_ GE117.out) | exact HB.out)) hb); clear HO_118000; clear HO_118001; clear HO128; clear BK117; clear HB; have HO_118000 := n0_; have HO_118001 := n1_; have HO128 := n2_; have HO131 := n3_; have BK117 := n4_; have HB := n5_; clear n0_ n1_ n2_ n3_ n4_ n5_; (try clear hb); (try clear ho0); obtain ⟨Ao176, co176, eo176⟩ := Kd.R_slice HO128.out; subst eo176; obtain ⟨Ao177, co177, eo177⟩ := Kd.R_slice HO131.out; subst eo177) | ((with_reducible refine gate_callee (f := 36) rfl ?_); refine goesL_ (some 97) rfl rfl Tryd.func36 (by kernel_rfl) rfl #[.slice Ao176 t126.length co176, .slice Ao177 t129.length co177] rfl (by (try simp only [List.map_toArray, List.map_cons, List.map_nil]) <;> rfl) ?_; (with_reducible refine (seal_Between.calls _ _ t126 _ _ t129 t132 t135 false _ ?side5 ?side1 ?side2 ?side3 ?side4 A67.out).mono ?_); (case side1 => repeat (first | exact (Kd.R_reads' HO128.out).2.2 | (with_reducible refine Kd.C_alloc ?_ _) | (with_reducible refine Kd.C_drewN ?_ _) | (with_reducible refine Kd.C_drew ?_))); (case side2 => exact (Kd.R_reads' HO128.out).2.1); (case side3 => repeat (first | exact (Kd.R_reads' HO131.out).2.2 | (with_reducible refine Kd.C_alloc ?_ _) | (with_reducible refine Kd.C_drewN ?_ _) | (with_reducible refine Kd.C_drew ?_))); (case side4 => exact (Kd.R_reads' HO131.out).2.1); (case side5 => exact gw_step hG_ (by repeat (first | (with_reducible first | exact HB.out | apply below_alloc | apply pw_below_drewN | apply below_drew1 | refine below_set ?_ GE117.out) | exact HB.out))); rintro e w178 ⟨v133, v136, rfl, ho0, ho1, hb⟩; refine ⟨_, rfl, ?_⟩; have n0_ := Aside0.mk (Kd.R_mono (Kd.R_told (Kd.R_told (Kd.R_old (by (with_reducible repeat (first | apply Kd.R_alloc | apply Kd.R_drewN | apply Kd.R_drew)); exact HO_118000.out) hb) (Kd.R_base ho0)) (Kd.R_base ho1)) (fun _ h_ => h_.1)); have n1_ := Aside0.mk (Kd.R_mono (Kd.R_told (Kd.R_told (Kd.R_old (by (with_reducible repeat (first | apply Kd.R_alloc | apply Kd.R_drewN | apply Kd.R_drew)); exact HO_118001.out) hb) (Kd.R_base ho0)) (Kd.R_base ho1)) (fun _ h_ => h_.1)); have n2_ := Aside0.mk (Kd.R_mono (Kd.R_told (Kd.R_told (Kd.R_old (by (with_reducible repeat (first | apply Kd.R_alloc | apply Kd.R_drewN | apply Kd.R_drew)); exact HO128.out) hb) (Kd.R_base ho0)) (Kd.R_base ho1)) (fun _ h_ => h_.1)); have n3_ := Aside0.mk (Kd.R_mono (Kd.R_told (Kd.R_told (Kd.R_old (by (with_reducible repeat (first | apply Kd.R_alloc | apply Kd.R_drewN | apply Kd.R_drew)); exact HO131.out) hb) (Kd.R_base ho0)) (Kd.R_base ho1)) (fun _ h_ => h_.1)); have n4_ := Aside0.mk (Kd.R_lower (Kd.R_new' (Kd.R_new' (Kd.R_new' (Kd.R_new' ho0 (Kd.R_lt (by (with_reducible repeat (first | apply Kd.R_alloc | apply Kd.R_drewN | apply Kd.R_drew)); exact HO_118000.out))) (Kd.R_lt (by (with_reducible repeat (first | apply Kd.R_alloc | apply Kd.R_drewN | apply Kd.R_drew)); exact HO_118001.out))) (Kd.R_lt (by (with_reducible repeat (first | apply Kd.R_alloc | apply Kd.R_drewN | apply Kd.R_drew)); exact HO128.out))) (Kd.R_lt (by (with_reducible repeat (first | apply Kd.R_alloc | apply Kd.R_drewN | apply Kd.R_drew)); exact HO131.out))) (below_size (by repeat (first | (with_reducible first | exact HB.out | apply below_alloc | apply pw_below_drewN | apply below_drew1 | refine below_set ?_ GE117.out) | exact HB.out)))); have n5_ := Aside0.mk (Kd.R_lower (Kd.R_new' (Kd.R_new' (Kd.R_new' (Kd.R_new' ho1 (Kd.R_lt (by (with_reducible repeat (first | apply Kd.R_alloc | apply Kd.R_drewN | apply Kd.R_drew)); exact HO_118000.out))) (Kd.R_lt (by (with_reducible repeat (first | apply Kd.R_alloc | apply Kd.R_drewN | apply Kd.R_drew)); exact HO_118001.out))) (Kd.R_lt (by (with_reducible repeat (first | apply Kd.R_alloc | apply Kd.R_drewN | apply Kd.R_drew)); exact HO128.out))) (Kd.R_lt (by (with_reducible repeat (first | apply Kd.R_alloc | apply Kd.R_drewN | apply Kd.R_drew)); exact HO131.out))) (below_size (by repeat (first | (with_reducible first | exact HB.out | apply below_alloc | apply pw_below_drewN | apply below_drew1 | refine below_set ?_ GE117.out) | exact HB.out)))); have n6_ := Aside0.mk (HCmp.kB BK117.out hb); have n7_ := Aside0.mk (below_step (by repeat (first | (with_reducible first | exact HB.out | apply below_alloc | apply pw_below_drewN | apply below_drew1 | refine below_set ?_ GE117.out) | exact HB.out)) hb); clear HO_118000; clear HO_118001; clear HO128; clear HO131; clear BK117; clear HB; have HO_118000 := n0_; have HO_118001 := n1_; have HO128 := n2_; have HO131 := n3_; have HO134 := n4_; have HO137 := n5_; have BK117 := n6_; have HB := n7_; clear n0_ n1_ n2_ n3_ n4_ n5_ n6_ n7_; (try clear hb); (try clear ho0); (try clear ho1)) | ((with_reducible refine gate_dst (N := 19) rfl ?_); (try (refine gate_guard (by rfl) ?_; dsimp only)); refine box_event ?hg (N := 19) ?hd (cs := #[.slice none 0 0, .slice none 0 0]) (t := 53) ?hr ?_; (case hd => rfl); (case hg => rfl); (case hr => first | (go_simp; done) | (go_simp; rfl)); intro gb139 hg w179 hbox hb; have n0_ := Aside0.mk (HCmp.rB HO_118000.out hb); have n1_ := Aside0.mk (HCmp.rB HO_118001.out hb); have n2_ := Aside0.mk (HCmp.rB HO128.out hb); have n3_ := Aside0.mk (HCmp.rB HO131.out hb); have n4_ := Aside0.mk (HCmp.rB HO134.out hb); have n5_ := Aside0.mk (HCmp.rB HO137.out hb); have n6_ := Aside0.mk (HCmp.kB BK117.out hb); have n7_ := Aside0.mk (below_step (by repeat (first | (with_reducible first | exact HB.out | apply below_alloc | apply pw_below_drewN | apply below_drew1 | refine below_set ?_ GE117.out) | exact HB.out)) hb); have n8_ := Aside0.mk (hbox); have n9_ := Aside0.mk ((by rw [hg]; exact (below_size (by repeat (first | (with_reducible first | exact HB.out | apply below_alloc | apply pw_below_drewN | apply below_drew1 | refine below_set ?_ GE117.out) | exact HB.out))) : w.heap.size ≤ gb139)); have n10_ := Aside0.mk ((by rw [hg]; exact (below_size (by repeat (first | (with_reducible first | exact HB.out | apply below_alloc | apply pw_below_drewN | apply below_drew1 | refine below_set ?_ GE117.out) | exact HB.out))) : w.heap.size ≤ gb139)); have n11_ := Aside0.mk ((by rw [hg]; exact Nat.ne_of_lt (blk_lt (g := gb117) (o := .cells #[.slice Ao28 t110.length co28, .slice Ao30 t113.length co30] 53 (0, 0)) (by (with_reducible repeat (first | refine blk_drewN ?_ _ | refine blk_drew ?_ | refine blk_alloc ?_ _)); exact BK117.out)) : gb117 ≠ gb139)); have n12_ := Aside0.mk ((by rw [hg]; exact Nat.ne_of_gt (blk_lt (g := gb117) (o := .cells #[.slice Ao28 t110.length co28, .slice Ao30 t113.length co30] 53 (0, 0)) (by (with_reducible repeat (first | refine blk_drewN ?_ _ | refine blk_drew ?_ | refine blk_alloc ?_ _)); exact BK117.out)) : gb139 ≠ gb117)); clear HO_118000; clear HO_118001; clear HO128; clear HO131; clear HO134; clear HO137; clear BK117; clear HB; have HO_118000 := n0_; have HO_118001 := n1_; have HO128 := n2_; have HO131 := n3_; have HO134 := n4_; have HO137 := n5_; have BK117 := n6_; have HB := n7_; have BK139 := n8_; have GW139 := n9_; have GE139 := n10_; have NB117_139 := n11_; have NB139_117 := n12_; clear n0_ n1_ n2_ n3_ n4_ n5_ n6_ n7_ n8_ n9_ n10_ n11_ n12_; clear hb hbox hg; obtain ⟨Ao180, co180, eo180⟩ := Kd.R_slice HO134.out; subst eo180; have hnb181 := NB139_117.out; have hnc181 := NB117_139.out; have hcz182_0 : w179.cell? ⟨gb139, 0, none⟩ = some (.slice none 0 0) := (blk_cell BK139.out 0).trans rfl; have hcz182_1 : w179.cell? ⟨gb139, 1, none⟩ = some (.slice none 0 0) := (blk_cell BK139.out 1).trans rfl; have hfz182_0 := blk_frozen BK139.out 0; have hfz182_1 := blk_frozen BK139.out 1; obtain ⟨Ao183, co183, eo183⟩ := Kd.R_slice HO137.out; subst eo183))
          have n0_ : Aside0 (Kd.R (Kd.int .u8) 5 ((w179.setCell ⟨gb139, 0, none⟩ (.slice Ao180 t132.length co180)).setCell ⟨gb139, 1, none⟩ (.slice Ao183 t135.length co183)) w.heap.size (fun k_ => some k_ ≠ (.slice Ao30 t113.length co30 : Value).ownBlock ∧ some k_ ≠ (.slice Ao176 t126.length co176 : Value).ownBlock ∧ some k_ ≠ (.slice Ao177 t129.length co177 : Value).ownBlock ∧ some k_ ≠ (.slice Ao180 t132.length co180 : Value).ownBlock ∧ some k_ ≠ (.slice Ao183 t135.length co183 : Value).ownBlock) (.slice Ao28 t110.length co28) t110) := ⟨by (with_reducible repeat (first | apply Kd.R_alloc | apply Kd.R_drewN | apply Kd.R_drew)); exact Kd.R_mono (Kd.R_far (p := ⟨gb139, 1, none⟩) (Kd.R_far (p := ⟨gb139, 0, none⟩) (Kd.R_types HO_118000.out BK139.out (by decide)) (fun _ hk => hk.2) (.slice Ao180 t132.length co180)) (fun _ hk => hk.2) (.slice Ao183 t135.length co183)) (fun _ hk => ⟨hk.1.1.1.1.1, ⟨hk.1.1.1.1.2, ⟨hk.1.1.1.2, ⟨hk.1.1.2, hk.1.2⟩⟩⟩⟩)⟩
          have n1_ : Aside0 (Kd.R (Kd.int .u8) 5 ((w179.setCell ⟨gb139, 0, none⟩ (.slice Ao180 t132.length co180)).setCell ⟨gb139, 1, none⟩ (.slice Ao183 t135.length co183)) w.heap.size (fun k_ => some k_ ≠ (.slice Ao28 t110.length co28 : Value).ownBlock ∧ some k_ ≠ (.slice Ao176 t126.length co176 : Value).ownBlock ∧ some k_ ≠ (.slice Ao177 t129.length co177 : Value).ownBlock ∧ some k_ ≠ (.slice Ao180 t132.length co180 : Value).ownBlock ∧ some k_ ≠ (.slice Ao183 t135.length co183 : Value).ownBlock) (.slice Ao30 t113.length co30) t113) := ⟨by (with_reducible repeat (first | apply Kd.R_alloc | apply Kd.R_drewN | apply Kd.R_drew)); exact Kd.R_mono (Kd.R_far (p := ⟨gb139, 1, none⟩) (Kd.R_far (p := ⟨gb139, 0, none⟩) (Kd.R_types HO_118001.out BK139.out (by decide)) (fun _ hk => hk.2) (.slice Ao180 t132.length co180)) (fun _ hk => hk.2) (.slice Ao183 t135.length co183)) (fun _ hk => ⟨hk.1.1.1.1.1, ⟨hk.1.1.1.1.2, ⟨hk.1.1.1.2, ⟨hk.1.1.2, hk.1.2⟩⟩⟩⟩)⟩
          have n2_ : Aside0 (Kd.R (Kd.int .u8) 5 ((w179.setCell ⟨gb139, 0, none⟩ (.slice Ao180 t132.length co180)).setCell ⟨gb139, 1, none⟩ (.slice Ao183 t135.length co183)) w.heap.size (fun k_ => some k_ ≠ (.slice Ao28 t110.length co28 : Value).ownBlock ∧ some k_ ≠ (.slice Ao30 t113.length co30 : Value).ownBlock ∧ some k_ ≠ (.slice Ao177 t129.length co177 : Value).ownBlock ∧ some k_ ≠ (.slice Ao180 t132.length co180 : Value).ownBlock ∧ some k_ ≠ (.slice Ao183 t135.length co183 : Value).ownBlock) (.slice Ao176 t126.length co176) t126) := ⟨by (with_reducible repeat (first | apply Kd.R_alloc | apply Kd.R_drewN | apply Kd.R_drew)); exact Kd.R_mono (Kd.R_far (p := ⟨gb139, 1, none⟩) (Kd.R_far (p := ⟨gb139, 0, none⟩) (Kd.R_types HO128.out BK139.out (by decide)) (fun _ hk => hk.2) (.slice Ao180 t132.length co180)) (fun _ hk => hk.2) (.slice Ao183 t135.length co183)) (fun _ hk => ⟨hk.1.1.1.1.1.2, ⟨hk.1.1.1.1.2, ⟨hk.1.1.1.2, ⟨hk.1.1.2, hk.1.2⟩⟩⟩⟩)⟩
          have n3_ : Aside0 (Kd.R (Kd.int .u8) 5 ((w179.setCell ⟨gb139, 0, none⟩ (.slice Ao180 t132.length co180)).setCell ⟨gb139, 1, none⟩ (.slice Ao183 t135.length co183)) w.heap.size (fun k_ => some k_ ≠ (.slice Ao28 t110.length co28 : Value).ownBlock ∧ some k_ ≠ (.slice Ao30 t113.length co30 : Value).ownBlock ∧ some k_ ≠ (.slice Ao176 t126.length co176 : Value).ownBlock ∧ some k_ ≠ (.slice Ao180 t132.length co180 : Value).ownBlock ∧ some k_ ≠ (.slice Ao183 t135.length co183 : Value).ownBlock) (.slice Ao177 t129.length co177) t129) := ⟨by (with_reducible repeat (first | apply Kd.R_alloc | apply Kd.R_drewN | apply Kd.R_drew)); exact Kd.R_mono (Kd.R_far (p := ⟨gb139, 1, none⟩) (Kd.R_far (p := ⟨gb139, 0, none⟩) (Kd.R_types HO131.out BK139.out (by decide)) (fun _ hk => hk.2) (.slice Ao180 t132.length co180)) (fun _ hk => hk.2) (.slice Ao183 t135.length co183)) (fun _ hk => ⟨hk.1.1.1.1.1.2, ⟨hk.1.1.1.1.2, ⟨hk.1.1.1.2, ⟨hk.1.1.2, hk.1.2⟩⟩⟩⟩)⟩
          have n4_ : Aside0 (Kd.R (Kd.int .u8) 5 ((w179.setCell ⟨gb139, 0, none⟩ (.slice Ao180 t132.length co180)).setCell ⟨gb139, 1, none⟩ (.slice Ao183 t135.length co183)) w.heap.size (fun k_ => some k_ ≠ (.slice Ao28 t110.length co28 : Value).ownBlock ∧ some k_ ≠ (.slice Ao30 t113.length co30 : Value).ownBlock ∧ some k_ ≠ (.slice Ao176 t126.length co176 : Value).ownBlock ∧ some k_ ≠ (.slice Ao177 t129.length co177 : Value).ownBlock ∧ some k_ ≠ (.slice Ao183 t135.length co183 : Value).ownBlock) (.slice Ao180 t132.length co180) t132) := ⟨by (with_reducible repeat (first | apply Kd.R_alloc | apply Kd.R_drewN | apply Kd.R_drew)); exact Kd.R_mono (Kd.R_far (p := ⟨gb139, 1, none⟩) (Kd.R_far (p := ⟨gb139, 0, none⟩) (Kd.R_types HO134.out BK139.out (by decide)) (fun _ hk => hk.2) (.slice Ao180 t132.length co180)) (fun _ hk => hk.2) (.slice Ao183 t135.length co183)) (fun _ hk => ⟨hk.1.1.1.1.2, ⟨hk.1.1.1.2, ⟨hk.1.1.2, ⟨hk.1.2, hk.1.1.1.1.1⟩⟩⟩⟩)⟩
          have n5_ : Aside0 (Kd.R (Kd.int .u8) 5 ((w179.setCell ⟨gb139, 0, none⟩ (.slice Ao180 t132.length co180)).setCell ⟨gb139, 1, none⟩ (.slice Ao183 t135.length co183)) w.heap.size (fun k_ => some k_ ≠ (.slice Ao28 t110.length co28 : Value).ownBlock ∧ some k_ ≠ (.slice Ao30 t113.length co30 : Value).ownBlock ∧ some k_ ≠ (.slice Ao176 t126.length co176 : Value).ownBlock ∧ some k_ ≠ (.slice Ao177 t129.length co177 : Value).ownBlock ∧ some k_ ≠ (.slice Ao180 t132.length co180 : Value).ownBlock) (.slice Ao183 t135.length co183) t135) := ⟨by (with_reducible repeat (first | apply Kd.R_alloc | apply Kd.R_drewN | apply Kd.R_drew)); exact Kd.R_mono (Kd.R_far (p := ⟨gb139, 1, none⟩) (Kd.R_far (p := ⟨gb139, 0, none⟩) (Kd.R_types HO137.out BK139.out (by decide)) (fun _ hk => hk.2) (.slice Ao180 t132.length co180)) (fun _ hk => hk.2) (.slice Ao183 t135.length co183)) (fun _ hk => ⟨hk.1.1.1.1.2, ⟨hk.1.1.1.2, ⟨hk.1.1.2, ⟨hk.1.2, hk.1.1.1.1.1⟩⟩⟩⟩)⟩
          have n6_ : Aside0 (((w179.setCell ⟨gb139, 0, none⟩ (.slice Ao180 t132.length co180)).setCell ⟨gb139, 1, none⟩ (.slice Ao183 t135.length co183)).heap[gb117]? = some (.cells #[.slice Ao28 t110.length co28, .slice Ao30 t113.length co30] 53 (0, 0))) := ⟨by (with_reducible repeat (first | refine blk_drewN ?_ _ | refine blk_drew ?_ | refine blk_alloc ?_ _)); refine blk_far ?_ NB117_139.out _; (with_reducible repeat (first | refine blk_drewN ?_ _ | refine blk_drew ?_ | refine blk_alloc ?_ _)); refine blk_far ?_ NB117_139.out _; (with_reducible repeat (first | refine blk_drewN ?_ _ | refine blk_drew ?_ | refine blk_alloc ?_ _)); exact BK117.out⟩
          have n7_ : Aside0 (((w179.setCell ⟨gb139, 0, none⟩ (.slice Ao180 t132.length co180)).setCell ⟨gb139, 1, none⟩ (.slice Ao183 t135.length co183)).heap[gb139]? = some (.cells #[.slice Ao180 t132.length co180, .slice Ao183 t135.length co183] 53 (0, 0))) := ⟨by (with_reducible repeat (first | refine blk_drewN ?_ _ | refine blk_drew ?_ | refine blk_alloc ?_ _)); refine blk_put (cs := #[.slice Ao180 t132.length co180, .slice none 0 0]) ?_ 1 _ rfl; (with_reducible repeat (first | refine blk_drewN ?_ _ | refine blk_drew ?_ | refine blk_alloc ?_ _)); refine blk_put (cs := #[.slice none 0 0, .slice none 0 0]) ?_ 0 _ rfl; (with_reducible repeat (first | refine blk_drewN ?_ _ | refine blk_drew ?_ | refine blk_alloc ?_ _)); exact BK139.out⟩
          have n8_ : Aside0 (Below w.heap.size w ((w179.setCell ⟨gb139, 0, none⟩ (.slice Ao180 t132.length co180)).setCell ⟨gb139, 1, none⟩ (.slice Ao183 t135.length co183))) := ⟨by repeat (first | (with_reducible first | exact HB.out | apply below_alloc | apply pw_below_drewN | apply below_drew1 | refine below_set ?_ GE117.out | refine below_set ?_ GE139.out) | exact HB.out)⟩
          (try clear HO_118000)
          (try clear HO_118001)
          (try clear HO128)
          (try clear HO131)
          (try clear HO134)
          (try clear HO137)
          (try clear BK117)
          (try clear BK139)
          (try clear HB)
          generalize ((w179.setCell ⟨gb139, 0, none⟩ (.slice Ao180 t132.length co180)).setCell ⟨gb139, 1, none⟩ (.slice Ao183 t135.length co183)) = w184 at n0_ n1_ n2_ n3_ n4_ n5_ n6_ n7_ n8_ ⊢
          have HO_118000 := n0_
          have HO_118001 := n1_
          have HO128 := n2_
          have HO131 := n3_
          have HO134 := n4_
          have HO137 := n5_
          have BK117 := n6_
          have BK139 := n7_
          have HB := n8_
          clear n0_ n1_ n2_ n3_ n4_ n5_ n6_ n7_ n8_
          have n0_ := Aside0.mk (Kd.R_drew HO_118000.out)
          have n1_ := Aside0.mk (Kd.R_drew HO_118001.out)
          have n2_ := Aside0.mk (Kd.R_drew HO128.out)
          have n3_ := Aside0.mk (Kd.R_drew HO131.out)
          have n4_ := Aside0.mk (Kd.R_drew HO134.out)
          have n5_ := Aside0.mk (Kd.R_drew HO137.out)
          have n6_ := Aside0.mk (blk_drew BK117.out)
          have n7_ := Aside0.mk (blk_drew BK139.out)
          have n8_ := Aside0.mk (below_drew1 HB.out)
          clear HO_118000
          clear HO_118001
          clear HO128
          clear HO131
          clear HO134
          clear HO137
          clear BK117
          clear BK139
          clear HB
          have HO_118000 := n0_
          have HO_118001 := n1_
          have HO128 := n2_
          have HO131 := n3_
          have HO134 := n4_
          have HO137 := n5_
          have BK117 := n6_
          have BK139 := n7_
          have HB := n8_
          clear n0_ n1_ n2_ n3_ n4_ n5_ n6_ n7_ n8_
          refine start_ (n := 27) (S := fun w' => True) (ds := []) #[false, false, false, false, false, false, false, false, false, false, false, false, false, false, false, false, false, false, false, false, false, false, false, false, false, false, false] (by kernel_rfl) rfl rfl trivial (fun hHeld => ?_); refine with_tabW rubricklaw03_SealTwo.tab9 rubricklaw03_SealTwo.bits9 (fun HT_ HW_ => ?_)
          generalize w184.drew = w185 at HO_118000 HO_118001 HO128 HO131 HO134 HO137 BK117 BK139 HB hHeld ⊢
          refine HBulk.bulkT (fuel := 22) HT_.out HW_.out [(0, some 100, false), (1, some 101, false), (2, some 102, false), (3, some 103, false), (4, some 104, false)] #[true, true, true, true, true, false, false, false, false, false, false, false, false, false, false, false, false, false, false, false, false, false, false, false, false, false, false] (a' := ?_) (by kernel_rfl) rfl hHeld ?_ ?_
          rotate_left
          ·repeat
            refine HBulk.RunsM.cons (v := ?_) (a1 := ?_) rfl rfl (fun _ _ _ h => h) (by rfl) ?_ ?_ ?_
            rotate_left
            ·intro w' hS_
             go_simp
             with_reducible rfl
            rotate_left
            ·simp only [Act.put, List.setIfInBounds_toArray, List.set_cons_zero, List.set_cons_succ, i64_w, i32_w]
             rfl
           exact HBulk.RunsM.nil
          refine pure_ (i := 5) (N := some 105) (v := undef) (a' := ?_) #[true, true, true, true, true, true, false, false, false, false, false, false, false, false, false, false, false, false, false, false, false, false, false, false, false, false, false] rfl rfl (any_of HT_.out (by kernel_rfl)) (fun _ _ _ h => h) (Or.inr ⟨by rfl, rfl⟩) ?_ ?_
          rotate_left
          ·simp only [Act.put, List.setIfInBounds_toArray, List.set_cons_zero, List.set_cons_succ, i64_w, i32_w]
           rfl
          refine pure_ (i := 6) (N := some 106) (v := undef) (a' := ?_) #[true, true, true, true, true, true, true, false, false, false, false, false, false, false, false, false, false, false, false, false, false, false, false, false, false, false, false] rfl rfl (any_of HT_.out (by kernel_rfl)) (fun _ _ _ h => h) (Or.inr ⟨by rfl, rfl⟩) ?_ ?_
          rotate_left
          ·simp only [Act.put, List.setIfInBounds_toArray, List.set_cons_zero, List.set_cons_succ, i64_w, i32_w]
           rfl
          refine pure_ (i := 7) (N := some 107) (v := undef) (a' := ?_) #[true, true, true, true, true, true, true, true, false, false, false, false, false, false, false, false, false, false, false, false, false, false, false, false, false, false, false] rfl rfl (any_of HT_.out (by kernel_rfl)) (fun _ _ _ h => h) (Or.inr ⟨by rfl, rfl⟩) ?_ ?_
          rotate_left
          ·simp only [Act.put, List.setIfInBounds_toArray, List.set_cons_zero, List.set_cons_succ, i64_w, i32_w]
           rfl
          refine HBulk.bulkT (fuel := 9) HT_.out HW_.out [(8, some 108, false), (9, some 109, false), (10, some 110, false), (11, some 111, false), (12, some 112, false), (13, some 113, false), (14, some 114, false), (15, some 115, false), (16, some 116, false), (17, some 117, false)] #[true, true, true, true, true, true, true, true, true, true, true, true, true, true, true, true, true, true, false, false, false, false, false, false, false, false, false] (a' := ?_) (by kernel_rfl) rfl hHeld ?_ ?_
          rotate_left
          ·repeat
            refine HBulk.RunsM.cons (v := ?_) (a1 := ?_) rfl rfl (fun _ _ _ h => h) (by rfl) ?_ ?_ ?_
            rotate_left
            ·intro w' hS_
             go_simp
             with_reducible rfl
            rotate_left
            ·simp only [Act.put, List.setIfInBounds_toArray, List.set_cons_zero, List.set_cons_succ, i64_w, i32_w]
             rfl
           exact HBulk.RunsM.nil
          refine pure_ (i := 18) (N := some 118) (v := undef) (a' := ?_) #[true, true, true, true, true, true, true, true, true, true, true, true, true, true, true, true, true, true, true, false, false, false, false, false, false, false, false] rfl rfl (any_of HT_.out (by kernel_rfl)) (fun _ _ _ h => h) (Or.inr ⟨by rfl, rfl⟩) ?_ ?_
          rotate_left
          ·simp only [Act.put, List.setIfInBounds_toArray, List.set_cons_zero, List.set_cons_succ, i64_w, i32_w]
           rfl
          refine pure_ (i := 19) (N := some 119) (v := undef) (a' := ?_) #[true, true, true, true, true, true, true, true, true, true, true, true, true, true, true, true, true, true, true, true, false, false, false, false, false, false, false] rfl rfl (any_of HT_.out (by kernel_rfl)) (fun _ _ _ h => h) (Or.inr ⟨by rfl, rfl⟩) ?_ ?_
          rotate_left
          ·simp only [Act.put, List.setIfInBounds_toArray, List.set_cons_zero, List.set_cons_succ, i64_w, i32_w]
           rfl
          refine pure_ (i := 20) (N := some 120) (v := undef) (a' := ?_) #[true, true, true, true, true, true, true, true, true, true, true, true, true, true, true, true, true, true, true, true, true, false, false, false, false, false, false] rfl rfl (any_of HT_.out (by kernel_rfl)) (fun _ _ _ h => h) (Or.inr ⟨by rfl, rfl⟩) ?_ ?_
          rotate_left
          ·simp only [Act.put, List.setIfInBounds_toArray, List.set_cons_zero, List.set_cons_succ, i64_w, i32_w]
           rfl
          refine pure_ (i := 21) (N := some 121) (v := undef) (a' := ?_) #[true, true, true, true, true, true, true, true, true, true, true, true, true, true, true, true, true, true, true, true, true, true, false, false, false, false, false] rfl rfl (any_of HT_.out (by kernel_rfl)) (fun _ _ _ h => h) (Or.inr ⟨by rfl, rfl⟩) ?_ ?_
          rotate_left
          ·simp only [Act.put, List.setIfInBounds_toArray, List.set_cons_zero, List.set_cons_succ, i64_w, i32_w]
           rfl
          refine pure_ (i := 22) (N := some 122) (v := undef) (a' := ?_) #[true, true, true, true, true, true, true, true, true, true, true, true, true, true, true, true, true, true, true, true, true, true, true, false, false, false, false] rfl rfl (any_of HT_.out (by kernel_rfl)) (fun _ _ _ h => h) (Or.inr ⟨by rfl, rfl⟩) ?_ ?_
          rotate_left
          ·simp only [Act.put, List.setIfInBounds_toArray, List.set_cons_zero, List.set_cons_succ, i64_w, i32_w]
           rfl
          refine pure_ (i := 23) (N := some 123) (v := undef) (a' := ?_) #[true, true, true, true, true, true, true, true, true, true, true, true, true, true, true, true, true, true, true, true, true, true, true, true, false, false, false] rfl rfl (any_of HT_.out (by kernel_rfl)) (fun _ _ _ h => h) (Or.inr ⟨by rfl, rfl⟩) ?_ ?_
          rotate_left
          ·simp only [Act.put, List.setIfInBounds_toArray, List.set_cons_zero, List.set_cons_succ, i64_w, i32_w]
           rfl
          refine pure_ (i := 24) (N := some 124) (v := undef) (a' := ?_) #[true, true, true, true, true, true, true, true, true, true, true, true, true, true, true, true, true, true, true, true, true, true, true, true, true, false, false] rfl rfl (any_of HT_.out (by kernel_rfl)) (fun _ _ _ h => h) (Or.inr ⟨by rfl, rfl⟩) ?_ ?_
          rotate_left
          ·simp only [Act.put, List.setIfInBounds_toArray, List.set_cons_zero, List.set_cons_succ, i64_w, i32_w]
           rfl
          refine HBulk.bulkT (fuel := 0) HT_.out HW_.out [(25, some 125, false), (26, some 126, false)] #[true, true, true, true, true, true, true, true, true, true, true, true, true, true, true, true, true, true, true, true, true, true, true, true, true, true, true] (a' := ?_) (by kernel_rfl) rfl hHeld ?_ ?_
          rotate_left
          ·repeat
            refine HBulk.RunsM.cons (v := ?_) (a1 := ?_) rfl rfl (fun _ _ _ h => h) (by rfl) ?_ ?_ ?_
            rotate_left
            ·intro w' hS_
             go_simp
             with_reducible rfl
            rotate_left
            ·simp only [Act.put, List.setIfInBounds_toArray, List.set_cons_zero, List.set_cons_succ, i64_w, i32_w]
             rfl
           exact HBulk.RunsM.nil
          refine done_ (done_of HT_.out (by kernel_rfl)) ?_
          try go_wp2_with (first | ((with_reducible refine gate_callee (f := 14) rfl ?_); refine goesL_ (some 127) rfl rfl Tryd.func14 (by kernel_rfl) rfl #[] rfl (by (try simp only [List.map_toArray, List.map_cons, List.map_nil]) <;> rfl) ?_; (with_reducible refine (rubricklaw03_knows.calls kj20  t151 _ ?side1 A171.out).mono ?_); (case side1 => exact gw_step hG_ (by repeat (first | (with_reducible first | exact HB.out | apply below_alloc | apply pw_below_drewN | apply below_drew1 | refine below_set ?_ GE117.out | refine below_set ?_ GE139.out) | exact HB.out))); rintro e w186 ⟨rfl, hb⟩; refine ⟨_, rfl, ?_⟩; have n0_ := Aside0.mk (HCmp.rB HO_118000.out hb); have n1_ := Aside0.mk (HCmp.rB HO_118001.out hb); have n2_ := Aside0.mk (HCmp.rB HO128.out hb); have n3_ := Aside0.mk (HCmp.rB HO131.out hb); have n4_ := Aside0.mk (HCmp.rB HO134.out hb); have n5_ := Aside0.mk (HCmp.rB HO137.out hb); have n6_ := Aside0.mk (HCmp.kB BK117.out hb); have n7_ := Aside0.mk (HCmp.kB BK139.out hb); have n8_ := Aside0.mk (below_step (by repeat (first | (with_reducible first | exact HB.out | apply below_alloc | apply pw_below_drewN | apply below_drew1 | refine below_set ?_ GE117.out | refine below_set ?_ GE139.out) | exact HB.out)) hb); clear HO_118000; clear HO_118001; clear HO128; clear HO131; clear HO134; clear HO137; clear BK117; clear BK139; clear HB; have HO_118000 := n0_; have HO_118001 := n1_; have HO128 := n2_; have HO131 := n3_; have HO134 := n4_; have HO137 := n5_; have BK117 := n6_; have BK139 := n7_; have HB := n8_; clear n0_ n1_ n2_ n3_ n4_ n5_ n6_ n7_ n8_; (try clear hb)))
          go_ret
          exact ⟨by first | rfl | (simp [errW_none, errW_some] <;> rfl) | exact congrArg (fun b_ : Bool => Ending.returned (Value.bool b_)) HT2_.out | (simp [*, errW_none, errW_some] <;> rfl), by repeat (first | (with_reducible first | exact HB.out | apply below_alloc | apply pw_below_drewN | apply below_drew1 | refine below_set ?_ GE117.out | refine below_set ?_ GE139.out) | exact HB.out)⟩
end Go.Proofs.YtjcfimnijpcjmaaDoor.PSealTwo

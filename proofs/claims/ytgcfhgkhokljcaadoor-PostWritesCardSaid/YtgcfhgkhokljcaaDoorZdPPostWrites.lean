import Derived.Test.YtgcfhgkhokljcaaDoorZdHBulk
import Derived.Test.YtgcfhgkhokljcaaDoorProg
import Derived.Below
import Derived.Deep.Draws
import Derived.Deep.AppendLies
import Derived.Maps.AppendAt
import Derived.OwnWalk
import Derived.Laws.BytesArg
import Derived.Laws.MakeOwn
import Derived.Laws.OwnMore
import Derived.Deep.OwnRows
import Derived.Tactics
import Derived.Lib.ConvBytes
import Derived.Laws.Slices
import Derived.WalkKit
import Derived.KernelRfl
import Derived.RowKit3
import Derived.Deep.LoopGhost
import Derived.Deep.QuietTactic
import Derived.BigQuiet
import Derived.WideLaws
import Derived.Deep.DeepCutAuto
import Derived.Deep.CutBlock
import Derived.Deep.RegionHeld3
import Derived.Laws.Rows
import Derived.Lib.AppendStr
import Derived.ArgAppend
import Derived.Laws.IdiomCopy
import Derived.OrdersHeld
import Derived.Laws.BitsLemmas
import Derived.RowKit
import Derived.WalkMore
import Derived.Test.YtgcfhgkhokljcaaDoorZdHShaD
import Derived.Test.YtgcfhgkhokljcaaDoorZdPS
import Derived.Test.YtgcfhgkhokljcaaDoorZdPR
import Derived.Test.YtgcfhgkhokljcaaDoorZdPT
import Derived.Test.YtgcfhgkhokljcaaDoorZdPA
import Derived.Test.YtgcfhgkhokljcaaDoorZdPD
import Derived.Test.YtgcfhgkhokljcaaDoorZdWWords
import Derived.Test.YtgcfhgkhokljcaaDoorZdWLast
import Derived.Test.YtgcfhgkhokljcaaDoorZdWTab
import Derived.Test.YtgcfhgkhokljcaaDoorZdWApart
import Derived.Test.YtgcfhgkhokljcaaDoorZdWFoot
import Derived.Test.YtgcfhgkhokljcaaDoorZdWKept
import Derived.Test.YtgcfhgkhokljcaaDoorZdWShare
import Derived.Test.YtgcfhgkhokljcaaDoorZdWN
import Derived.Laws.StructEq
import Derived.Test.YtgcfhgkhokljcaaDoorZdWRepsOne
import Derived.Test.YtgcfhgkhokljcaaDoorZdWGuard
import Derived.Test.YtgcfhgkhokljcaaDoorZdWMore
-- PRINTED by print.py (a twelfth state) out of the translation. Not trusted: Lean checks it.
namespace Go.Proofs.YtgcfhgkhokljcaaDoor.PPostWrites
open Go.RowKit Go.Proofs.YtgcfhgkhokljcaaDoor  Go.Proofs.YtgcfhgkhokljcaaDoor.HSha Go.Proofs.YtgcfhgkhokljcaaDoor.PS Go.Proofs.YtgcfhgkhokljcaaDoor.PR Go.Proofs.YtgcfhgkhokljcaaDoor.PT Go.Proofs.YtgcfhgkhokljcaaDoor.PA Go.Proofs.YtgcfhgkhokljcaaDoor.PD Go.Proofs.YtgcfhgkhokljcaaDoorW.PrintWords Go.Proofs.YtgcfhgkhokljcaaDoorW.PrintLast Go.Proofs.YtgcfhgkhokljcaaDoorW.PrintMore
attribute [local go_sem] max2_int min2_int max_two min_two max_three min_three max_four min_four   -- for this text's walks alone
set_option linter.unusedVariables false
set_option linter.unusedSimpArgs false
def errW : Option Int → Value
 | none => .nilIface
 | some c => .iface 0 (.int .i64 c)
theorem errW_none : errW none = .nilIface := rfl
theorem errW_some (c : Int) : errW (some c) = .iface 0 (.int .i64 c) := rfl
-- the values' own types
end Go.Proofs.YtgcfhgkhokljcaaDoor.PPostWrites
namespace Go.Proofs.YtgcfhgkhokljcaaDoor.PPostWrites
open Go.RowKit Go.Proofs.YtgcfhgkhokljcaaDoor  Go.Proofs.YtgcfhgkhokljcaaDoor.HSha Go.Proofs.YtgcfhgkhokljcaaDoor.PS Go.Proofs.YtgcfhgkhokljcaaDoor.PR Go.Proofs.YtgcfhgkhokljcaaDoor.PT Go.Proofs.YtgcfhgkhokljcaaDoor.PA Go.Proofs.YtgcfhgkhokljcaaDoor.PD Go.Proofs.YtgcfhgkhokljcaaDoorW.PrintWords Go.Proofs.YtgcfhgkhokljcaaDoorW.PrintLast Go.Proofs.YtgcfhgkhokljcaaDoorW.PrintMore
attribute [local go_sem] max2_int min2_int max_two min_two max_three min_three max_four min_four   -- for this text's walks alone
set_option linter.unusedVariables false
set_option linter.unusedSimpArgs false
/-! ### rubricklaw09_PostWrites: function 10 -/
def rubricklaw09_PostWrites.f (k : Nat) (l0 : List Int) : Option (Bool) := (rubricklaw09_great.f l0).bind fun t101 => (if t101 = true then ((rubricklaw09_knows.f k).bind fun t102 => (some t102)) else ((post_Write.f k l0).bind fun bt103 => ((post_Digest.f k l0).bind fun bt107 => ((rubrickref09_Right.f k l0).bind fun t109 => ((post_Right.f k l0).bind fun t110 => (if (t110 != t109) = true then (some false) else (if t109 = true then ((rubrickref09_Write.f k l0).bind fun t111 => (if (strOfNums bt103.1).toList = (strOfNums t111).toList then (if bt103.2 = 0 then ((rubrickref09_Digest.f k l0).bind fun t114 => (if bt107.1.toList = t114.toList then (if bt107.2 = 0 then ((rubricklaw09_knows.f k).bind fun t115 => (some t115)) else (some false)) else (some false))) else (some false)) else (some false))) else (if (bt103.1.length : Int) = 0 then (if bt103.2 = 1 then (if bt107.1.toList = ([] : List UInt8) then (if bt107.2 = 1 then ((rubricklaw09_knows.f k).bind fun t116 => (some t116)) else (some false)) else (some false)) else (some false)) else (some false)))))))))
def rubricklaw09_PostWrites.T10 : Bool × List (List Nat × List Nat) := (true, [([], []), ([0], [0]), ([], []), ([2], [2]), ([3], [3]), ([1, 4], [1, 4]), ([5, 3], [5]), ([6], [6]), ([7, 6], [6, 7]), ([6, 8], [6, 8]), ([9, 6], [9]), ([10], [10]), ([10], [10]), ([12, 10, 10], [10, 12]), ([11, 13, 10], [10, 11, 13]), ([10, 14], [10, 14]), ([15, 13], [15]), ([16], [16]), ([17, 16], [16, 17]), ([16, 18], [16, 18]), ([19, 16], [19]), ([20, 20], [20]), ([20, 21], [20, 21]), ([22, 21, 0, 1, 2, 3, 4, 5, 6, 7, 8, 9, 10, 11, 12, 13, 14, 15, 16, 17, 18, 19, 20, 21, 22], [22])])
def rubricklaw09_PostWrites.B10 : List Nat := [0, 1, 0, 4, 12, 31, 63, 127, 255, 511, 1023, 2047, 2047, 6143, 16383, 32767, 65535, 131071, 262143, 524287, 1048575, 2097151, 4194303, 8388607]
theorem rubricklaw09_PostWrites.tab10 : rtab .any (opsOf Tryd.f10 10) = rubricklaw09_PostWrites.T10 := by kernel_rfl
theorem rubricklaw09_PostWrites.bits10 : waitsOk rubricklaw09_PostWrites.T10.2 rubricklaw09_PostWrites.B10 = true := by kernel_rfl
set_option maxHeartbeats 8000000 in
set_option maxRecDepth 100000 in
theorem rubricklaw09_PostWrites.calls (k : Nat) (A0 : Option Addr) (c0 : Nat) (l0 : List Int) (r : Bool) (w : World) (hG_ : Aside0 (GW w)) (hr0 : Kd.C (Kd.int .i64) w A0 l0.length l0) (hc0 : l0.length ≤ c0) (h : rubricklaw09_PostWrites.f k l0 = some r) (hT_ : r = true) :
  Calls Tryd.prog 10 #[.slice A0 l0.length c0] w fun e w' => e = .returned (.bool r) ∧ Below w.heap.size w w' := by
 have HR0 := Aside0.mk hr0
 have HC0 := Aside0.mk hc0
 clear hr0 hc0
 have HB := Aside0.mk (Below.refl w.heap.size w)
 subst hT_
 have H : ((rubricklaw09_great.f l0).bind fun t101 => (if t101 = true then ((rubricklaw09_knows.f k).bind fun t102 => (some t102)) else ((post_Write.f k l0).bind fun bt103 => ((post_Digest.f k l0).bind fun bt107 => ((rubrickref09_Right.f k l0).bind fun t109 => ((post_Right.f k l0).bind fun t110 => (if (t110 != t109) = true then (some false) else (if t109 = true then ((rubrickref09_Write.f k l0).bind fun t111 => (if (strOfNums bt103.1).toList = (strOfNums t111).toList then (if bt103.2 = 0 then ((rubrickref09_Digest.f k l0).bind fun t114 => (if bt107.1.toList = t114.toList then (if bt107.2 = 0 then ((rubricklaw09_knows.f k).bind fun t115 => (some t115)) else (some false)) else (some false))) else (some false)) else (some false))) else (if (bt103.1.length : Int) = 0 then (if bt103.2 = 1 then (if bt107.1.toList = ([] : List UInt8) then (if bt107.2 = 1 then ((rubricklaw09_knows.f k).bind fun t116 => (some t116)) else (some false)) else (some false)) else (some false)) else (some false)))))))))) = some true := h
 clear h
 replace H := Option.bind_eq_some_iff.mp H
 obtain ⟨t101, A20, H⟩ := H
 replace H : (if t101 = true then ((rubricklaw09_knows.f k).bind fun t102 => (some t102)) else ((post_Write.f k l0).bind fun bt103 => ((post_Digest.f k l0).bind fun bt107 => ((rubrickref09_Right.f k l0).bind fun t109 => ((post_Right.f k l0).bind fun t110 => (if (t110 != t109) = true then (some false) else (if t109 = true then ((rubrickref09_Write.f k l0).bind fun t111 => (if (strOfNums bt103.1).toList = (strOfNums t111).toList then (if bt103.2 = 0 then ((rubrickref09_Digest.f k l0).bind fun t114 => (if bt107.1.toList = t114.toList then (if bt107.2 = 0 then ((rubricklaw09_knows.f k).bind fun t115 => (some t115)) else (some false)) else (some false))) else (some false)) else (some false))) else (if (bt103.1.length : Int) = 0 then (if bt103.2 = 1 then (if bt107.1.toList = ([] : List UInt8) then (if bt107.2 = 1 then ((rubricklaw09_knows.f k).bind fun t116 => (some t116)) else (some false)) else (some false)) else (some false)) else (some false))))))))) = some true := H
 have A2 := Aside0.mk A20
 clear A20
 by_cases c3 : t101 = true
 ·subst c3
  have H1 : ((rubricklaw09_knows.f k).bind fun t102 => (some t102)) = some true := by rw [if_pos rfl] at H; exact H
  clear H
  have H := H1
  clear H1
  replace H := Option.bind_eq_some_iff.mp H
  obtain ⟨t102, A40, H⟩ := H
  replace H : (some t102) = some true := H
  have A4 := Aside0.mk A40
  clear A40
  have HT2_ := Aside0.mk (Option.some.inj H)
  clear H
  go_enter Tryd.func10, Tryd.ntmps10
  go_wp2_with (first | ((with_reducible refine gate_callee (f := 30) rfl ?_); refine goesL_ (some 9) rfl rfl Tryd.func30 (by kernel_rfl) rfl #[.slice A0 l0.length c0] rfl (by (try simp only [List.map_toArray, List.map_cons, List.map_nil]); first | done | rfl | (simp only [List.length_drop, List.length_take]; rfl)) ?_; (with_reducible refine (rubricklaw09_great.calls _ _ l0 true _ ?side1 ?side2 A2.out).mono ?_); (case side1 => repeat (first | exact HR0.out | (with_reducible refine Kd.C_alloc ?_ _) | (with_reducible refine Kd.C_drewN ?_ _) | (with_reducible refine Kd.C_drew ?_))); (case side2 => exact HC0.out); rintro e w' ⟨rfl, ⟨nd, rfl⟩⟩; refine ⟨_, rfl, ?_⟩) | ((with_reducible refine gate_callee (f := 31) rfl ?_); refine goesL_ (some 10) rfl rfl Tryd.func31 (by kernel_rfl) rfl #[] rfl (by (try simp only [List.map_toArray, List.map_cons, List.map_nil]); first | done | rfl | (simp only [List.length_drop, List.length_take]; rfl)) ?_; (with_reducible refine (rubricklaw09_knows.calls k  t102 _ A4.out).mono ?_); rintro e w5 ⟨rfl, hb⟩; refine ⟨_, rfl, ?_⟩; have n0_ := Aside0.mk (below_step (by repeat (first | (with_reducible first | exact HB.out | apply below_alloc | apply pw_below_drewN | apply below_drew1) | exact HB.out)) hb); clear HB; have HB := n0_; clear n0_; (try clear hb); (try clear hb2); (try clear hk); (try clear hi)))
  go_ret
  exact ⟨by first | rfl | (simp [errW_none, errW_some] <;> rfl) | exact congrArg (fun b_ : Bool => Ending.returned (Value.bool b_)) HT2_.out | (simp [*, errW_none, errW_some] <;> rfl), by repeat (first | (with_reducible first | exact HB.out | apply below_alloc | apply pw_below_drewN | apply below_drew1) | exact HB.out)⟩
 ·replace c3 := Bool.eq_false_iff.mpr c3
  subst c3
  have H1 : ((post_Write.f k l0).bind fun bt103 => ((post_Digest.f k l0).bind fun bt107 => ((rubrickref09_Right.f k l0).bind fun t109 => ((post_Right.f k l0).bind fun t110 => (if (t110 != t109) = true then (some false) else (if t109 = true then ((rubrickref09_Write.f k l0).bind fun t111 => (if (strOfNums bt103.1).toList = (strOfNums t111).toList then (if bt103.2 = 0 then ((rubrickref09_Digest.f k l0).bind fun t114 => (if bt107.1.toList = t114.toList then (if bt107.2 = 0 then ((rubricklaw09_knows.f k).bind fun t115 => (some t115)) else (some false)) else (some false))) else (some false)) else (some false))) else (if (bt103.1.length : Int) = 0 then (if bt103.2 = 1 then (if bt107.1.toList = ([] : List UInt8) then (if bt107.2 = 1 then ((rubricklaw09_knows.f k).bind fun t116 => (some t116)) else (some false)) else (some false)) else (some false)) else (some false)))))))) = some true := by rw [if_neg (show ¬ (false = true) by decide)] at H; exact H
  clear H
  have H := H1
  clear H1
  replace H := Option.bind_eq_some_iff.mp H
  obtain ⟨⟨t103, t104⟩, A60, H⟩ := H
  replace H : ((post_Digest.f k l0).bind fun bt107 => ((rubrickref09_Right.f k l0).bind fun t109 => ((post_Right.f k l0).bind fun t110 => (if (t110 != t109) = true then (some false) else (if t109 = true then ((rubrickref09_Write.f k l0).bind fun t111 => (if (strOfNums t103).toList = (strOfNums t111).toList then (if t104 = 0 then ((rubrickref09_Digest.f k l0).bind fun t114 => (if bt107.1.toList = t114.toList then (if bt107.2 = 0 then ((rubricklaw09_knows.f k).bind fun t115 => (some t115)) else (some false)) else (some false))) else (some false)) else (some false))) else (if (t103.length : Int) = 0 then (if t104 = 1 then (if bt107.1.toList = ([] : List UInt8) then (if bt107.2 = 1 then ((rubricklaw09_knows.f k).bind fun t116 => (some t116)) else (some false)) else (some false)) else (some false)) else (some false))))))) = some true := H
  have A6 := Aside0.mk A60
  clear A60
  replace H := Option.bind_eq_some_iff.mp H
  obtain ⟨⟨t107, t108⟩, A70, H⟩ := H
  replace H : ((rubrickref09_Right.f k l0).bind fun t109 => ((post_Right.f k l0).bind fun t110 => (if (t110 != t109) = true then (some false) else (if t109 = true then ((rubrickref09_Write.f k l0).bind fun t111 => (if (strOfNums t103).toList = (strOfNums t111).toList then (if t104 = 0 then ((rubrickref09_Digest.f k l0).bind fun t114 => (if t107.toList = t114.toList then (if t108 = 0 then ((rubricklaw09_knows.f k).bind fun t115 => (some t115)) else (some false)) else (some false))) else (some false)) else (some false))) else (if (t103.length : Int) = 0 then (if t104 = 1 then (if t107.toList = ([] : List UInt8) then (if t108 = 1 then ((rubricklaw09_knows.f k).bind fun t116 => (some t116)) else (some false)) else (some false)) else (some false)) else (some false)))))) = some true := H
  have A7 := Aside0.mk A70
  clear A70
  replace H := Option.bind_eq_some_iff.mp H
  obtain ⟨t109, A80, H⟩ := H
  replace H : ((post_Right.f k l0).bind fun t110 => (if (t110 != t109) = true then (some false) else (if t109 = true then ((rubrickref09_Write.f k l0).bind fun t111 => (if (strOfNums t103).toList = (strOfNums t111).toList then (if t104 = 0 then ((rubrickref09_Digest.f k l0).bind fun t114 => (if t107.toList = t114.toList then (if t108 = 0 then ((rubricklaw09_knows.f k).bind fun t115 => (some t115)) else (some false)) else (some false))) else (some false)) else (some false))) else (if (t103.length : Int) = 0 then (if t104 = 1 then (if t107.toList = ([] : List UInt8) then (if t108 = 1 then ((rubricklaw09_knows.f k).bind fun t116 => (some t116)) else (some false)) else (some false)) else (some false)) else (some false))))) = some true := H
  have A8 := Aside0.mk A80
  clear A80
  replace H := Option.bind_eq_some_iff.mp H
  obtain ⟨t110, A90, H⟩ := H
  replace H : (if (t110 != t109) = true then (some false) else (if t109 = true then ((rubrickref09_Write.f k l0).bind fun t111 => (if (strOfNums t103).toList = (strOfNums t111).toList then (if t104 = 0 then ((rubrickref09_Digest.f k l0).bind fun t114 => (if t107.toList = t114.toList then (if t108 = 0 then ((rubricklaw09_knows.f k).bind fun t115 => (some t115)) else (some false)) else (some false))) else (some false)) else (some false))) else (if (t103.length : Int) = 0 then (if t104 = 1 then (if t107.toList = ([] : List UInt8) then (if t108 = 1 then ((rubricklaw09_knows.f k).bind fun t116 => (some t116)) else (some false)) else (some false)) else (some false)) else (some false)))) = some true := H
  have A9 := Aside0.mk A90
  clear A90
  by_cases c10 : (t110 != t109) = true
  ·rw [if_pos c10] at H
   have c10b0 : (t110 != t109) = true := c10
   (try (have c10b1 : decide (t110 = t109) = false := by simpa using c10))
   (try (have c10b2 : (t110 == t109) = false := by simpa using c10))
   (try (have c10b3 : ¬ (t110 = t109) := by simpa using c10))
   clear c10
   cases H
  ·rw [if_neg c10] at H
   have c10b0 : (t110 != t109) = false := by simpa using c10
   (try (have c10b1 : decide (t110 = t109) = true := by simpa using c10))
   (try (have c10b2 : (t110 == t109) = true := by simpa using c10))
   clear c10
   by_cases c11 : t109 = true
   ·subst c11
    have H1 : ((rubrickref09_Write.f k l0).bind fun t111 => (if (strOfNums t103).toList = (strOfNums t111).toList then (if t104 = 0 then ((rubrickref09_Digest.f k l0).bind fun t114 => (if t107.toList = t114.toList then (if t108 = 0 then ((rubricklaw09_knows.f k).bind fun t115 => (some t115)) else (some false)) else (some false))) else (some false)) else (some false))) = some true := by rw [if_pos rfl] at H; exact H
    clear H
    have H := H1
    clear H1
    replace H := Option.bind_eq_some_iff.mp H
    obtain ⟨t111, A120, H⟩ := H
    replace H : (if (strOfNums t103).toList = (strOfNums t111).toList then (if t104 = 0 then ((rubrickref09_Digest.f k l0).bind fun t114 => (if t107.toList = t114.toList then (if t108 = 0 then ((rubricklaw09_knows.f k).bind fun t115 => (some t115)) else (some false)) else (some false))) else (some false)) else (some false)) = some true := H
    have A12 := Aside0.mk A120
    clear A120
    by_cases c13 : (strOfNums t103).toList = (strOfNums t111).toList
    ·rw [if_pos c13] at H
     have c13b0 : ((strOfNums t103).toList == (strOfNums t111).toList) = true := beq_iff_eq.mpr c13
     have c13b1 : ((strOfNums t103).toList != (strOfNums t111).toList) = false := bne_eq_false_iff_eq.mpr c13
     clear c13
     by_cases c14 : t104 = 0
     ·rw [if_pos c14] at H
      have c14b0 : (t104 == 0) = true := beq_iff_eq.mpr c14
      have c14b1 : (t104 != 0) = false := bne_eq_false_iff_eq.mpr c14
      clear c14
      replace H := Option.bind_eq_some_iff.mp H
      obtain ⟨t114, A150, H⟩ := H
      replace H : (if t107.toList = t114.toList then (if t108 = 0 then ((rubricklaw09_knows.f k).bind fun t115 => (some t115)) else (some false)) else (some false)) = some true := H
      have A15 := Aside0.mk A150
      clear A150
      by_cases c16 : t107.toList = t114.toList
      ·rw [if_pos c16] at H
       have c16b0 : (t107.toList == t114.toList) = true := beq_iff_eq.mpr c16
       have c16b1 : (t107.toList != t114.toList) = false := bne_eq_false_iff_eq.mpr c16
       clear c16
       by_cases c17 : t108 = 0
       ·rw [if_pos c17] at H
        have c17b0 : (t108 == 0) = true := beq_iff_eq.mpr c17
        have c17b1 : (t108 != 0) = false := bne_eq_false_iff_eq.mpr c17
        clear c17
        replace H := Option.bind_eq_some_iff.mp H
        obtain ⟨t115, A180, H⟩ := H
        replace H : (some t115) = some true := H
        have A18 := Aside0.mk A180
        clear A180
        have HT2_ := Aside0.mk (Option.some.inj H)
        clear H
        go_enter Tryd.func10, Tryd.ntmps10
        try go_wp2_with (first | ((with_reducible refine gate_callee (f := 30) rfl ?_); refine goesL_ (some 9) rfl rfl Tryd.func30 (by kernel_rfl) rfl #[.slice A0 l0.length c0] rfl (by (try simp only [List.map_toArray, List.map_cons, List.map_nil]); first | done | rfl | (simp only [List.length_drop, List.length_take]; rfl)) ?_; (with_reducible refine (rubricklaw09_great.calls _ _ l0 false _ ?side1 ?side2 A2.out).mono ?_); (case side1 => repeat (first | exact HR0.out | (with_reducible refine Kd.C_alloc ?_ _) | (with_reducible refine Kd.C_drewN ?_ _) | (with_reducible refine Kd.C_drew ?_))); (case side2 => exact HC0.out); rintro e w' ⟨rfl, ⟨nd, rfl⟩⟩; refine ⟨_, rfl, ?_⟩) | ((with_reducible refine gate_callee (f := 32) rfl ?_); refine goesL_ (some 13) rfl rfl Tryd.func32 (by kernel_rfl) rfl #[.slice A0 l0.length c0] rfl (by (try simp only [List.map_toArray, List.map_cons, List.map_nil]); first | done | rfl | (simp only [List.length_drop, List.length_take]; rfl)) ?_; (with_reducible refine (post_Write.calls k _ _ l0 t103 t104 _ ?side1 ?side2 A6.out).mono ?_); (case side1 => repeat (first | exact HR0.out | (with_reducible refine Kd.C_alloc ?_ _) | (with_reducible refine Kd.C_drewN ?_ _) | (with_reducible refine Kd.C_drew ?_))); (case side2 => exact HC0.out); rintro e w19 ⟨v105, rfl, ho0, hb⟩; refine ⟨_, rfl, ?_⟩; have n0_ := Aside0.mk (Kd.R_lower ho0 (below_size (by repeat (first | (with_reducible first | exact HB.out | apply below_alloc | apply pw_below_drewN | apply below_drew1) | exact HB.out)))); have n1_ := Aside0.mk (below_step (by repeat (first | (with_reducible first | exact HB.out | apply below_alloc | apply pw_below_drewN | apply below_drew1) | exact HB.out)) hb); clear HB; have HO106 := n0_; have HB := n1_; clear n0_ n1_; (try clear hb); (try clear hb2); (try clear hk); (try clear hi); (try clear ho0)) | ((with_reducible refine gate_callee (f := 33) rfl ?_); refine goesL_ (some 18) rfl rfl Tryd.func33 (by kernel_rfl) rfl #[.slice A0 l0.length c0] rfl (by (try simp only [List.map_toArray, List.map_cons, List.map_nil]); first | done | rfl | (simp only [List.length_drop, List.length_take]; rfl)) ?_; (with_reducible refine (post_Digest.calls k _ _ l0 t107 t108 _ ?side3 ?side1 ?side2 A7.out).mono ?_); (case side1 => repeat (first | exact (Kd.C_below HR0.out HB.out) | (with_reducible refine Kd.C_alloc ?_ _) | (with_reducible refine Kd.C_drewN ?_ _) | (with_reducible refine Kd.C_drew ?_))); (case side2 => exact HC0.out); (case side3 => exact gw_step hG_ (by repeat (first | (with_reducible first | exact HB.out | apply below_alloc | apply pw_below_drewN | apply below_drew1) | exact HB.out))); rintro e w20 ⟨rfl, hb⟩; refine ⟨_, rfl, ?_⟩; have n0_ := Aside0.mk (Kd.R_below (by (with_reducible repeat (first | apply Kd.R_alloc | apply Kd.R_drewN | apply Kd.R_drew)); exact HO106.out) hb); have n1_ := Aside0.mk (below_step (by repeat (first | (with_reducible first | exact HB.out | apply below_alloc | apply pw_below_drewN | apply below_drew1) | exact HB.out)) hb); clear HO106; clear HB; have HO106 := n0_; have HB := n1_; clear n0_ n1_; (try clear hb); (try clear hb2); (try clear hk); (try clear hi)) | ((with_reducible refine gate_callee (f := 34) rfl ?_); refine goesL_ (some 22) rfl rfl Tryd.func34 (by kernel_rfl) rfl #[.slice A0 l0.length c0] rfl (by (try simp only [List.map_toArray, List.map_cons, List.map_nil]); first | done | rfl | (simp only [List.length_drop, List.length_take]; rfl)) ?_; (with_reducible refine (rubrickref09_Right.calls k _ _ l0 true _ ?side1 ?side2 A8.out).mono ?_); (case side1 => repeat (first | exact (Kd.C_below HR0.out HB.out) | (with_reducible refine Kd.C_alloc ?_ _) | (with_reducible refine Kd.C_drewN ?_ _) | (with_reducible refine Kd.C_drew ?_))); (case side2 => exact HC0.out); rintro e w' ⟨rfl, ⟨nd, rfl⟩⟩; refine ⟨_, rfl, ?_⟩) | ((with_reducible refine gate_callee (f := 35) rfl ?_); refine goesL_ (some 24) rfl rfl Tryd.func35 (by kernel_rfl) rfl #[.slice A0 l0.length c0] rfl (by (try simp only [List.map_toArray, List.map_cons, List.map_nil]); first | done | rfl | (simp only [List.length_drop, List.length_take]; rfl)) ?_; (with_reducible refine (post_Right.calls k _ _ l0 t110 _ ?side1 ?side2 A9.out).mono ?_); (case side1 => repeat (first | exact (Kd.C_below HR0.out (by repeat (first | (with_reducible first | exact HB.out | apply below_alloc | apply pw_below_drewN | apply below_drew1) | exact HB.out))) | (with_reducible refine Kd.C_alloc ?_ _) | (with_reducible refine Kd.C_drewN ?_ _) | (with_reducible refine Kd.C_drew ?_))); (case side2 => exact HC0.out); rintro e w' ⟨rfl, ⟨nd, rfl⟩⟩; refine ⟨_, rfl, ?_⟩))
        (try (rw [drewN_self w20]; generalize hq_ : World.drewN w20 _ = w20; have n0_ : Aside0 (Kd.R (Kd.int .u8) 5 w20 w.heap.size (fun _ => True) v105 t103) := ⟨by rw [← hq_]; exact (by (with_reducible repeat (first | apply Kd.R_alloc | apply Kd.R_drewN | apply Kd.R_drew)); exact HO106.out)⟩; have n1_ : Aside0 (Below w.heap.size w w20) := ⟨by rw [← hq_]; exact (by repeat (first | (with_reducible first | exact HB.out | apply below_alloc | apply pw_below_drewN | apply below_drew1) | exact HB.out))⟩; clear HO106 HB hq_; have HO106 := n0_; have HB := n1_; clear n0_ n1_))
        have n0_ := Aside0.mk (Kd.R_drew HO106.out)
        have n1_ := Aside0.mk (below_drew1 HB.out)
        clear HO106
        clear HB
        have HO106 := n0_
        have HB := n1_
        clear n0_ n1_
        refine start_ (n := 24) (S := fun w' => (convert 43 9 (v105)).run Tryd.prog w' = .ok (.string (strOfNums t103)) w') (ds := []) #[false, false, false, false, false, false, false, false, false, false, false, false, false, false, false, false, false, false, false, false, false, false, false, false] (by kernel_rfl) rfl rfl ((own_string (P := Tryd.prog) Tryd.underlying43 Tryd.underlying5 Tryd.underlying9 (Kd.own_of_R HO106.out))) (fun hHeld => ?_); refine with_tabW rubricklaw09_PostWrites.tab10 rubricklaw09_PostWrites.bits10 (fun HT_ HW_ => ?_)
        generalize w20.drew = w21 at HO106 HB hHeld ⊢
        refine HBulk.bulkT (fuel := 21) HT_.out HW_.out [(0, some 47, false), (2, some 49, false), (1, some 48, true)] #[true, true, true, false, false, false, false, false, false, false, false, false, false, false, false, false, false, false, false, false, false, false, false, false] (a' := ?_) (by kernel_rfl) rfl hHeld ?_ ?_
        rotate_left
        ·repeat
          refine HBulk.RunsM.cons (v := ?_) (a1 := ?_) rfl rfl (fun _ _ _ h => h) (by rfl) ?_ ?_ ?_
          rotate_left
          ·intro w' hS_; (try (have s0 := hS_ rfl))
           go_simp
           with_reducible rfl
          rotate_left
          ·simp only [Act.put, List.setIfInBounds_toArray, List.set_cons_zero, List.set_cons_succ, i64_w, i32_w]
           rfl
         exact HBulk.RunsM.nil
        refine one_ (i := 3) (N := some 50) #[true, true, true, true, false, false, false, false, false, false, false, false, false, false, false, false, false, false, false, false, false, false, false, false] rfl rfl (one_of HT_.out (by kernel_rfl)) (by decide) (fun K hK => ?_)
        refine goes_ Tryd.func36 (by kernel_rfl) rfl #[.slice A0 l0.length c0] (by rfl) rfl rfl (by (try simp only [List.map_toArray, List.map_cons, List.map_nil]); first | done | rfl | (simp only [List.length_drop, List.length_take]; rfl)) ?_
        with_reducible refine (rubrickref09_Write.calls k _ _ l0 t111 _ ?side1 ?side2 A12.out).mono ?_
        (case side1 => repeat (first | exact (Kd.C_below HR0.out HB.out) | (with_reducible refine Kd.C_alloc ?_ _) | (with_reducible refine Kd.C_drewN ?_ _) | (with_reducible refine Kd.C_drew ?_)))
        (case side2 => exact HC0.out)
        rintro e w22 ⟨v112, rfl, ho0, hb⟩
        refine ⟨_, rfl, ?_⟩
        have n0_ := Aside0.mk (Kd.R_elder' (by (with_reducible repeat (first | apply Kd.R_alloc | apply Kd.R_drewN | apply Kd.R_drew)); exact HO106.out) (Kd.R_base ho0) hb)
        have n1_ := Aside0.mk (Kd.R_lower (Kd.R_new' ho0 (Kd.R_lt (by (with_reducible repeat (first | apply Kd.R_alloc | apply Kd.R_drewN | apply Kd.R_drew)); exact HO106.out))) (below_size (by repeat (first | (with_reducible first | exact HB.out | apply below_alloc | apply pw_below_drewN | apply below_drew1) | exact HB.out))))
        have n2_ := Aside0.mk (below_step (by repeat (first | (with_reducible first | exact HB.out | apply below_alloc | apply pw_below_drewN | apply below_drew1) | exact HB.out)) hb)
        clear HO106
        clear HB
        have HO106 := n0_
        have HO113 := n1_
        have HB := n2_
        clear n0_ n1_ n2_
        (try clear hb)
        (try clear hb2)
        (try clear hk)
        (try clear hi)
        (try clear ho0)
        refine hK.out _ _ ((own_string (P := Tryd.prog) Tryd.underlying43 Tryd.underlying5 Tryd.underlying9 (Kd.own_of_R HO106.out))) (fun hHeld => ?_)
        clear hK K
        refine norm_ (a' := ?_) ?_ ?_
        rotate_left
        ·show Act.put _ (some 50) _ = _
         simp only [Act.put, List.setIfInBounds_toArray, List.set_cons_zero, List.set_cons_succ, i64_w, i32_w]
         rfl
        refine one_ (i := 4) (N := some 51) #[true, true, true, true, true, false, false, false, false, false, false, false, false, false, false, false, false, false, false, false, false, false, false, false] rfl rfl (one_of HT_.out (by kernel_rfl)) (by decide) (fun K hK => ?_)
        have hcv23 := own_string (P := Tryd.prog) Tryd.underlying43 Tryd.underlying5 Tryd.underlying9 (Kd.own_of_R HO113.out)
        refine value_ (w1 := ?_) (v := ?_) (by rfl) rfl ?_ ?_
        rotate_left 2
        ·go_simp
         constructor
         ·rfl
         ·rfl
        clear hcv23
        refine hK.out _ _ ((own_string (P := Tryd.prog) Tryd.underlying43 Tryd.underlying5 Tryd.underlying9 (Kd.own_of_R HO106.out))) (fun hHeld => ?_)
        clear hK K
        refine norm_ (a' := ?_) ?_ ?_
        rotate_left
        ·show Act.put _ (some 51) _ = _
         simp only [Act.put, List.setIfInBounds_toArray, List.set_cons_zero, List.set_cons_succ, i64_w, i32_w]
         rfl
        refine HBulk.bulkT (fuel := 11) HT_.out HW_.out [(5, some 52, false), (6, some 53, false), (7, some 54, false), (8, some 55, false), (9, some 56, false), (10, some 57, false), (11, some 58, false), (12, some 59, false)] #[true, true, true, true, true, true, true, true, true, true, true, true, true, false, false, false, false, false, false, false, false, false, false, false] (a' := ?_) (by kernel_rfl) rfl hHeld ?_ ?_
        rotate_left
        ·repeat
          refine HBulk.RunsM.cons (v := ?_) (a1 := ?_) rfl rfl (fun _ _ _ h => h) (by rfl) ?_ ?_ ?_
          rotate_left
          ·intro w' hS_
           go_simp
           with_reducible rfl
          rotate_left
          ·simp only [Act.put, List.setIfInBounds_toArray, List.set_cons_zero, List.set_cons_succ, i64_w, i32_w]
           rfl
         exact HBulk.RunsM.nil
        refine one_ (i := 13) (N := some 60) #[true, true, true, true, true, true, true, true, true, true, true, true, true, true, false, false, false, false, false, false, false, false, false, false] rfl rfl (one_of HT_.out (by kernel_rfl)) (by decide) (fun K hK => ?_)
        refine goes_ Tryd.func37 (by kernel_rfl) rfl #[.slice A0 l0.length c0] (by rfl) rfl rfl (by (try simp only [List.map_toArray, List.map_cons, List.map_nil]); first | done | rfl | (simp only [List.length_drop, List.length_take]; rfl)) ?_
        with_reducible refine (rubrickref09_Digest.calls k _ _ l0 t114 _ ?side1 ?side2 A15.out).mono ?_
        (case side1 => repeat (first | exact (Kd.C_below HR0.out HB.out) | (with_reducible refine Kd.C_alloc ?_ _) | (with_reducible refine Kd.C_drewN ?_ _) | (with_reducible refine Kd.C_drew ?_)))
        (case side2 => exact HC0.out)
        rintro e w25 ⟨rfl, hb⟩
        refine ⟨_, rfl, ?_⟩
        have n0_ := Aside0.mk (Kd.R_below (by (with_reducible repeat (first | apply Kd.R_alloc | apply Kd.R_drewN | apply Kd.R_drew)); exact HO106.out) hb)
        have n1_ := Aside0.mk (Kd.R_below (by (with_reducible repeat (first | apply Kd.R_alloc | apply Kd.R_drewN | apply Kd.R_drew)); exact HO113.out) hb)
        have n2_ := Aside0.mk (below_step (by repeat (first | (with_reducible first | exact HB.out | apply below_alloc | apply pw_below_drewN | apply below_drew1) | exact HB.out)) hb)
        clear HO106
        clear HO113
        clear HB
        have HO106 := n0_
        have HO113 := n1_
        have HB := n2_
        clear n0_ n1_ n2_
        (try clear hb)
        (try clear hb2)
        (try clear hk)
        (try clear hi)
        refine hK.out _ _ ((own_string (P := Tryd.prog) Tryd.underlying43 Tryd.underlying5 Tryd.underlying9 (Kd.own_of_R HO106.out))) (fun hHeld => ?_)
        clear hK K
        refine norm_ (a' := ?_) ?_ ?_
        rotate_left
        ·show Act.put _ (some 60) _ = _
         simp only [Act.put, List.setIfInBounds_toArray, List.set_cons_zero, List.set_cons_succ, i64_w, i32_w]
         rfl
        refine HBulk.bulkT (fuel := 3) HT_.out HW_.out [(14, some 61, false), (15, some 62, false), (16, some 63, false), (17, some 64, false), (18, some 65, false), (19, some 66, false), (20, some 67, false)] #[true, true, true, true, true, true, true, true, true, true, true, true, true, true, true, true, true, true, true, true, true, false, false, false] (a' := ?_) (by kernel_rfl) rfl hHeld ?_ ?_
        rotate_left
        ·repeat
          refine HBulk.RunsM.cons (v := ?_) (a1 := ?_) rfl rfl (fun _ _ _ h => h) (by rfl) ?_ ?_ ?_
          rotate_left
          ·intro w' hS_
           go_simp
           with_reducible rfl
          rotate_left
          ·simp only [Act.put, List.setIfInBounds_toArray, List.set_cons_zero, List.set_cons_succ, i64_w, i32_w]
           rfl
         exact HBulk.RunsM.nil
        refine one_ (i := 21) (N := some 68) #[true, true, true, true, true, true, true, true, true, true, true, true, true, true, true, true, true, true, true, true, true, true, false, false] rfl rfl (one_of HT_.out (by kernel_rfl)) (by decide) (fun K hK => ?_)
        refine goes_ Tryd.func31 (by kernel_rfl) rfl #[] (by rfl) rfl rfl (by (try simp only [List.map_toArray, List.map_cons, List.map_nil]); first | done | rfl | (simp only [List.length_drop, List.length_take]; rfl)) ?_
        with_reducible refine (rubricklaw09_knows.calls k  t115 _ A18.out).mono ?_
        rintro e w26 ⟨rfl, hb⟩
        refine ⟨_, rfl, ?_⟩
        have n0_ := Aside0.mk (Kd.R_below (by (with_reducible repeat (first | apply Kd.R_alloc | apply Kd.R_drewN | apply Kd.R_drew)); exact HO106.out) hb)
        have n1_ := Aside0.mk (Kd.R_below (by (with_reducible repeat (first | apply Kd.R_alloc | apply Kd.R_drewN | apply Kd.R_drew)); exact HO113.out) hb)
        have n2_ := Aside0.mk (below_step (by repeat (first | (with_reducible first | exact HB.out | apply below_alloc | apply pw_below_drewN | apply below_drew1) | exact HB.out)) hb)
        clear HO106
        clear HO113
        clear HB
        have HO106 := n0_
        have HO113 := n1_
        have HB := n2_
        clear n0_ n1_ n2_
        (try clear hb)
        (try clear hb2)
        (try clear hk)
        (try clear hi)
        refine hK.out _ _ ((own_string (P := Tryd.prog) Tryd.underlying43 Tryd.underlying5 Tryd.underlying9 (Kd.own_of_R HO106.out))) (fun hHeld => ?_)
        clear hK K
        refine norm_ (a' := ?_) ?_ ?_
        rotate_left
        ·show Act.put _ (some 68) _ = _
         simp only [Act.put, List.setIfInBounds_toArray, List.set_cons_zero, List.set_cons_succ, i64_w, i32_w]
         rfl
        refine HBulk.bulkT (fuel := 0) HT_.out HW_.out [(22, some 69, false), (23, some 2, false)] #[true, true, true, true, true, true, true, true, true, true, true, true, true, true, true, true, true, true, true, true, true, true, true, true] (a' := ?_) (by kernel_rfl) rfl hHeld ?_ ?_
        rotate_left
        ·repeat
          refine HBulk.RunsM.cons (v := ?_) (a1 := ?_) rfl rfl (fun _ _ _ h => h) (by rfl) ?_ ?_ ?_
          rotate_left
          ·intro w' hS_
           go_simp
           with_reducible rfl
          rotate_left
          ·simp only [Act.put, List.setIfInBounds_toArray, List.set_cons_zero, List.set_cons_succ, i64_w, i32_w]
           rfl
         exact HBulk.RunsM.nil
        refine done_ (done_of HT_.out (by kernel_rfl)) ?_
        try go_wp2
        go_ret
        exact ⟨by first | rfl | (simp [errW_none, errW_some] <;> rfl) | exact congrArg (fun b_ : Bool => Ending.returned (Value.bool b_)) HT2_.out | (simp [*, errW_none, errW_some] <;> rfl), by repeat (first | (with_reducible first | exact HB.out | apply below_alloc | apply pw_below_drewN | apply below_drew1) | exact HB.out)⟩
       ·rw [if_neg c17] at H
        have c17b0 : (t108 == 0) = false := beq_eq_false_iff_ne.mpr c17
        have c17b1 : (t108 != 0) = true := bne_iff_ne.mpr c17
        cases H
      ·rw [if_neg c16] at H
       have c16b0 : (t107.toList == t114.toList) = false := beq_eq_false_iff_ne.mpr c16
       have c16b1 : (t107.toList != t114.toList) = true := bne_iff_ne.mpr c16
       cases H
     ·rw [if_neg c14] at H
      have c14b0 : (t104 == 0) = false := beq_eq_false_iff_ne.mpr c14
      have c14b1 : (t104 != 0) = true := bne_iff_ne.mpr c14
      cases H
    ·rw [if_neg c13] at H
     have c13b0 : ((strOfNums t103).toList == (strOfNums t111).toList) = false := beq_eq_false_iff_ne.mpr c13
     have c13b1 : ((strOfNums t103).toList != (strOfNums t111).toList) = true := bne_iff_ne.mpr c13
     cases H
   ·replace c11 := Bool.eq_false_iff.mpr c11
    subst c11
    have H1 : (if (t103.length : Int) = 0 then (if t104 = 1 then (if t107.toList = ([] : List UInt8) then (if t108 = 1 then ((rubricklaw09_knows.f k).bind fun t116 => (some t116)) else (some false)) else (some false)) else (some false)) else (some false)) = some true := by rw [if_neg (show ¬ (false = true) by decide)] at H; exact H
    clear H
    have H := H1
    clear H1
    by_cases c27 : (t103.length : Int) = 0
    ·rw [if_pos c27] at H
     have c27b0 : ((t103.length : Int) == 0) = true := beq_iff_eq.mpr c27
     have c27b1 : ((t103.length : Int) != 0) = false := bne_eq_false_iff_eq.mpr c27
     clear c27
     by_cases c28 : t104 = 1
     ·rw [if_pos c28] at H
      have c28b0 : (t104 == 1) = true := beq_iff_eq.mpr c28
      have c28b1 : (t104 != 1) = false := bne_eq_false_iff_eq.mpr c28
      clear c28
      by_cases c29 : t107.toList = ([] : List UInt8)
      ·rw [if_pos c29] at H
       have c29b0 : (t107.toList == ([] : List UInt8)) = true := beq_iff_eq.mpr c29
       have c29b1 : (t107.toList != ([] : List UInt8)) = false := bne_eq_false_iff_eq.mpr c29
       clear c29
       by_cases c30 : t108 = 1
       ·rw [if_pos c30] at H
        have c30b0 : (t108 == 1) = true := beq_iff_eq.mpr c30
        have c30b1 : (t108 != 1) = false := bne_eq_false_iff_eq.mpr c30
        clear c30
        replace H := Option.bind_eq_some_iff.mp H
        obtain ⟨t116, A310, H⟩ := H
        replace H : (some t116) = some true := H
        have A31 := Aside0.mk A310
        clear A310
        have HT2_ := Aside0.mk (Option.some.inj H)
        clear H
        go_enter Tryd.func10, Tryd.ntmps10
        go_wp2_with (first | ((with_reducible refine gate_callee (f := 30) rfl ?_); refine goesL_ (some 9) rfl rfl Tryd.func30 (by kernel_rfl) rfl #[.slice A0 l0.length c0] rfl (by (try simp only [List.map_toArray, List.map_cons, List.map_nil]); first | done | rfl | (simp only [List.length_drop, List.length_take]; rfl)) ?_; (with_reducible refine (rubricklaw09_great.calls _ _ l0 false _ ?side1 ?side2 A2.out).mono ?_); (case side1 => repeat (first | exact HR0.out | (with_reducible refine Kd.C_alloc ?_ _) | (with_reducible refine Kd.C_drewN ?_ _) | (with_reducible refine Kd.C_drew ?_))); (case side2 => exact HC0.out); rintro e w' ⟨rfl, ⟨nd, rfl⟩⟩; refine ⟨_, rfl, ?_⟩) | ((with_reducible refine gate_callee (f := 32) rfl ?_); refine goesL_ (some 13) rfl rfl Tryd.func32 (by kernel_rfl) rfl #[.slice A0 l0.length c0] rfl (by (try simp only [List.map_toArray, List.map_cons, List.map_nil]); first | done | rfl | (simp only [List.length_drop, List.length_take]; rfl)) ?_; (with_reducible refine (post_Write.calls k _ _ l0 t103 t104 _ ?side1 ?side2 A6.out).mono ?_); (case side1 => repeat (first | exact HR0.out | (with_reducible refine Kd.C_alloc ?_ _) | (with_reducible refine Kd.C_drewN ?_ _) | (with_reducible refine Kd.C_drew ?_))); (case side2 => exact HC0.out); rintro e w32 ⟨v105, rfl, ho0, hb⟩; refine ⟨_, rfl, ?_⟩; have n0_ := Aside0.mk (Kd.R_lower ho0 (below_size (by repeat (first | (with_reducible first | exact HB.out | apply below_alloc | apply pw_below_drewN | apply below_drew1) | exact HB.out)))); have n1_ := Aside0.mk (below_step (by repeat (first | (with_reducible first | exact HB.out | apply below_alloc | apply pw_below_drewN | apply below_drew1) | exact HB.out)) hb); clear HB; have HO106 := n0_; have HB := n1_; clear n0_ n1_; (try clear hb); (try clear hb2); (try clear hk); (try clear hi); (try clear ho0)) | ((with_reducible refine gate_callee (f := 33) rfl ?_); refine goesL_ (some 18) rfl rfl Tryd.func33 (by kernel_rfl) rfl #[.slice A0 l0.length c0] rfl (by (try simp only [List.map_toArray, List.map_cons, List.map_nil]); first | done | rfl | (simp only [List.length_drop, List.length_take]; rfl)) ?_; (with_reducible refine (post_Digest.calls k _ _ l0 t107 t108 _ ?side3 ?side1 ?side2 A7.out).mono ?_); (case side1 => repeat (first | exact (Kd.C_below HR0.out HB.out) | (with_reducible refine Kd.C_alloc ?_ _) | (with_reducible refine Kd.C_drewN ?_ _) | (with_reducible refine Kd.C_drew ?_))); (case side2 => exact HC0.out); (case side3 => exact gw_step hG_ (by repeat (first | (with_reducible first | exact HB.out | apply below_alloc | apply pw_below_drewN | apply below_drew1) | exact HB.out))); rintro e w33 ⟨rfl, hb⟩; refine ⟨_, rfl, ?_⟩; have n0_ := Aside0.mk (Kd.R_below (by (with_reducible repeat (first | apply Kd.R_alloc | apply Kd.R_drewN | apply Kd.R_drew)); exact HO106.out) hb); have n1_ := Aside0.mk (below_step (by repeat (first | (with_reducible first | exact HB.out | apply below_alloc | apply pw_below_drewN | apply below_drew1) | exact HB.out)) hb); clear HO106; clear HB; have HO106 := n0_; have HB := n1_; clear n0_ n1_; (try clear hb); (try clear hb2); (try clear hk); (try clear hi)) | ((with_reducible refine gate_callee (f := 34) rfl ?_); refine goesL_ (some 22) rfl rfl Tryd.func34 (by kernel_rfl) rfl #[.slice A0 l0.length c0] rfl (by (try simp only [List.map_toArray, List.map_cons, List.map_nil]); first | done | rfl | (simp only [List.length_drop, List.length_take]; rfl)) ?_; (with_reducible refine (rubrickref09_Right.calls k _ _ l0 false _ ?side1 ?side2 A8.out).mono ?_); (case side1 => repeat (first | exact (Kd.C_below HR0.out HB.out) | (with_reducible refine Kd.C_alloc ?_ _) | (with_reducible refine Kd.C_drewN ?_ _) | (with_reducible refine Kd.C_drew ?_))); (case side2 => exact HC0.out); rintro e w' ⟨rfl, ⟨nd, rfl⟩⟩; refine ⟨_, rfl, ?_⟩) | ((with_reducible refine gate_callee (f := 35) rfl ?_); refine goesL_ (some 24) rfl rfl Tryd.func35 (by kernel_rfl) rfl #[.slice A0 l0.length c0] rfl (by (try simp only [List.map_toArray, List.map_cons, List.map_nil]); first | done | rfl | (simp only [List.length_drop, List.length_take]; rfl)) ?_; (with_reducible refine (post_Right.calls k _ _ l0 t110 _ ?side1 ?side2 A9.out).mono ?_); (case side1 => repeat (first | exact (Kd.C_below HR0.out (by repeat (first | (with_reducible first | exact HB.out | apply below_alloc | apply pw_below_drewN | apply below_drew1) | exact HB.out))) | (with_reducible refine Kd.C_alloc ?_ _) | (with_reducible refine Kd.C_drewN ?_ _) | (with_reducible refine Kd.C_drew ?_))); (case side2 => exact HC0.out); rintro e w' ⟨rfl, ⟨nd, rfl⟩⟩; refine ⟨_, rfl, ?_⟩; obtain ⟨Ao34, co34, eo34⟩ := Kd.R_slice HO106.out; subst eo34) | (go_at_call 31; (with_reducible refine (rubricklaw09_knows.calls k  t116 _ A31.out).mono ?_); rintro e w35 ⟨rfl, hb⟩; have n0_ := Aside0.mk (Kd.R_below (by (with_reducible repeat (first | apply Kd.R_alloc | apply Kd.R_drewN | apply Kd.R_drew)); exact HO106.out) hb); have n1_ := Aside0.mk (below_step (by repeat (first | (with_reducible first | exact HB.out | apply below_alloc | apply pw_below_drewN | apply below_drew1) | exact HB.out)) hb); clear HO106; clear HB; have HO106 := n0_; have HB := n1_; clear n0_ n1_; (try clear hb); (try clear hb2); (try clear hk); (try clear hi)))
        go_ret
        exact ⟨by first | rfl | (simp [errW_none, errW_some] <;> rfl) | exact congrArg (fun b_ : Bool => Ending.returned (Value.bool b_)) HT2_.out | (simp [*, errW_none, errW_some] <;> rfl), by repeat (first | (with_reducible first | exact HB.out | apply below_alloc | apply pw_below_drewN | apply below_drew1) | exact HB.out)⟩
       ·rw [if_neg c30] at H
        have c30b0 : (t108 == 1) = false := beq_eq_false_iff_ne.mpr c30
        have c30b1 : (t108 != 1) = true := bne_iff_ne.mpr c30
        cases H
      ·rw [if_neg c29] at H
       have c29b0 : (t107.toList == ([] : List UInt8)) = false := beq_eq_false_iff_ne.mpr c29
       have c29b1 : (t107.toList != ([] : List UInt8)) = true := bne_iff_ne.mpr c29
       cases H
     ·rw [if_neg c28] at H
      have c28b0 : (t104 == 1) = false := beq_eq_false_iff_ne.mpr c28
      have c28b1 : (t104 != 1) = true := bne_iff_ne.mpr c28
      cases H
    ·rw [if_neg c27] at H
     have c27b0 : ((t103.length : Int) == 0) = false := beq_eq_false_iff_ne.mpr c27
     have c27b1 : ((t103.length : Int) != 0) = true := bne_iff_ne.mpr c27
     have c27b2 : ¬ (t103 = []) := fun h_ => c27 (by rw [h_]; rfl)
     cases H
end Go.Proofs.YtgcfhgkhokljcaaDoor.PPostWrites

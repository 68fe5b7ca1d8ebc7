import Derived.Test.YtpmefpdafkbphaaDoorProg
import Derived.Below
import Derived.Deep.Draws
import Derived.Deep.AppendLies
import Derived.Maps.AppendAt
import Derived.OwnWalk
import Derived.Laws.BytesArg
import Derived.Laws.MakeOwn
import Derived.Laws.OwnMore
import Derived.Deep.OwnRows
import Derived.Tactics
import Derived.Lib.ConvBytes
import Derived.Laws.Slices
import Derived.WalkKit
import Derived.KernelRfl
import Derived.RowKit3
import Derived.Deep.LoopGhost
import Derived.Deep.QuietTactic
import Derived.BigQuiet
import Derived.WideLaws
import Derived.Deep.DeepCutAuto
import Derived.Deep.CutBlock
import Derived.Deep.RegionHeld3
import Derived.Laws.Rows
import Derived.Lib.AppendStr
import Derived.ArgAppend
import Derived.Laws.IdiomCopy
import Derived.OrdersHeld
import Derived.Laws.BitsLemmas
import Derived.RowKit
import Derived.WalkMore
import Derived.Test.YtpmefpdafkbphaaDoorZaHShaD
import Derived.Test.YtpmefpdafkbphaaDoorZaPS
import Derived.Test.YtpmefpdafkbphaaDoorZaPR
import Derived.Test.YtpmefpdafkbphaaDoorZaPT
import Derived.Test.YtpmefpdafkbphaaDoorZaPB
import Derived.Test.YtpmefpdafkbphaaDoorZaHNode
import Derived.Test.YtpmefpdafkbphaaDoorZaPC
import Derived.Test.YtpmefpdafkbphaaDoorZaPP
import Derived.Test.YtpmefpdafkbphaaDoorZaHProve
import Derived.Test.YtpmefpdafkbphaaDoorZaHCheck
import Derived.Test.YtpmefpdafkbphaaDoorZaPK
import Derived.Test.YtpmefpdafkbphaaDoorZaWWords
import Derived.Test.YtpmefpdafkbphaaDoorZaWLast
import Derived.Test.YtpmefpdafkbphaaDoorZaWTab
import Derived.Test.YtpmefpdafkbphaaDoorZaWApart
import Derived.Test.YtpmefpdafkbphaaDoorZaWFoot
import Derived.Test.YtpmefpdafkbphaaDoorZaWKept
import Derived.Test.YtpmefpdafkbphaaDoorZaWShare
import Derived.Test.YtpmefpdafkbphaaDoorZaWN
import Derived.Laws.StructEq
import Derived.Test.YtpmefpdafkbphaaDoorZaWRepsOne
import Derived.Test.YtpmefpdafkbphaaDoorZaWInv
import Derived.Test.YtpmefpdafkbphaaDoorZaWGuard
import Derived.Test.YtpmefpdafkbphaaDoorZaWNEv
import Derived.Test.YtpmefpdafkbphaaDoorZaWMore
-- PRINTED by print.py (a twelfth state) out of the translation. Not trusted: Lean checks it.
namespace Go.Proofs.YtpmefpdafkbphaaDoor.PConsLength
open Go.RowKit  Go.Proofs.YtpmefpdafkbphaaDoor.HSha Go.Proofs.YtpmefpdafkbphaaDoor.PS Go.Proofs.YtpmefpdafkbphaaDoor.PR Go.Proofs.YtpmefpdafkbphaaDoor.PT Go.Proofs.YtpmefpdafkbphaaDoor.PB Go.Proofs.YtpmefpdafkbphaaDoor.HNode Go.Proofs.YtpmefpdafkbphaaDoor.PC Go.Proofs.YtpmefpdafkbphaaDoor.PP Go.Proofs.YtpmefpdafkbphaaDoor.HProve Go.Proofs.YtpmefpdafkbphaaDoor.HCheck Go.Proofs.YtpmefpdafkbphaaDoor.PK Go.Proofs.YtpmefpdafkbphaaDoorW.PrintWords Go.Proofs.YtpmefpdafkbphaaDoorW.PrintLast Go.Proofs.YtpmefpdafkbphaaDoorW.PrintMore
attribute [local go_sem] max2_int min2_int max_two min_two max_three min_three max_four min_four   -- for this text's walks alone
set_option linter.unusedVariables false
set_option linter.unusedSimpArgs false
def errW : Option Int → Value
 | none => .nilIface
 | some c => .iface 0 (.int .i64 c)
theorem errW_none : errW none = .nilIface := rfl
theorem errW_some (c : Int) : errW (some c) = .iface 0 (.int .i64 c) := rfl
-- the values' own types
end Go.Proofs.YtpmefpdafkbphaaDoor.PConsLength
namespace Go.Proofs.YtpmefpdafkbphaaDoor.PConsLength
open Go.RowKit  Go.Proofs.YtpmefpdafkbphaaDoor.HSha Go.Proofs.YtpmefpdafkbphaaDoor.PS Go.Proofs.YtpmefpdafkbphaaDoor.PR Go.Proofs.YtpmefpdafkbphaaDoor.PT Go.Proofs.YtpmefpdafkbphaaDoor.PB Go.Proofs.YtpmefpdafkbphaaDoor.HNode Go.Proofs.YtpmefpdafkbphaaDoor.PC Go.Proofs.YtpmefpdafkbphaaDoor.PP Go.Proofs.YtpmefpdafkbphaaDoor.HProve Go.Proofs.YtpmefpdafkbphaaDoor.HCheck Go.Proofs.YtpmefpdafkbphaaDoor.PK Go.Proofs.YtpmefpdafkbphaaDoorW.PrintWords Go.Proofs.YtpmefpdafkbphaaDoorW.PrintLast Go.Proofs.YtpmefpdafkbphaaDoorW.PrintMore
attribute [local go_sem] max2_int min2_int max_two min_two max_three min_three max_four min_four   -- for this text's walks alone
set_option linter.unusedVariables false
set_option linter.unusedSimpArgs false
/-! ### rubricklaw07_ConsLength: function 6 -/
def rubricklaw07_ConsLength.j0 : Nat → Int → Int → ByteArray → ByteArray → List ByteArray → List ByteArray → Bool → Option (Bool)
 | 0, _, _, _, _, _, _, _ => none
 | k + 1, x0, x1, x2, x3, x4, x5, x35 => if x35 = true then ((rubricklaw07_knows.f k).bind fun t103 => (some t103)) else ((cons_Check.f k x0 x1 x2 x3 x4).bind fun t104 => (if t104 = 0 then ((cons_Check.f k x0 x1 x2 x3 x5).bind fun t105 => (if t105 = 0 then (some false) else ((rubricklaw07_knows.f k).bind fun t106 => (some t106)))) else ((rubricklaw07_knows.f k).bind fun t107 => (some t107))))
def rubricklaw07_ConsLength.f (k : Nat) (a0 : Int) (a1 : Int) (a2 : ByteArray) (a3 : ByteArray) (l4 : List ByteArray) (l5 : List ByteArray) : Option (Bool) := (rubricklaw06_Great.f k l4).bind fun t101 => (if t101 = true then (rubricklaw07_ConsLength.j0 k a0 a1 a2 a3 l4 l5 true) else ((rubricklaw06_Great.f k l5).bind fun t102 => (if t102 = true then (rubricklaw07_ConsLength.j0 k a0 a1 a2 a3 l4 l5 true) else (if (a2.size : Int) = 32 then (if (a3.size : Int) = 32 then (rubricklaw07_ConsLength.j0 k a0 a1 a2 a3 l4 l5 ((l4.length : Int) == (l5.length : Int))) else (rubricklaw07_ConsLength.j0 k a0 a1 a2 a3 l4 l5 true)) else (rubricklaw07_ConsLength.j0 k a0 a1 a2 a3 l4 l5 true)))))
set_option maxHeartbeats 8000000 in
set_option maxRecDepth 100000 in
theorem rubricklaw07_ConsLength.calls (k : Nat) (a0 : Int) (a1 : Int) (a2 : ByteArray) (a3 : ByteArray) (A4 : Option Addr) (c4 : Nat) (l4 : List ByteArray) (A5 : Option Addr) (c5 : Nat) (l5 : List ByteArray) (r : Bool) (w : World) (hG_ : Aside0 (GW w)) (hr4 : Kd.C Kd.string w A4 l4.length l4) (hc4 : l4.length ≤ c4) (hr5 : Kd.C Kd.string w A5 l5.length l5) (hc5 : l5.length ≤ c5) (h : rubricklaw07_ConsLength.f k a0 a1 a2 a3 l4 l5 = some r) (hT_ : r = true) :
  Calls Tryd.prog 6 #[.int .i64 a0, .int .i64 a1, .string a2, .string a3, .slice A4 l4.length c4, .slice A5 l5.length c5] w fun e w' => e = .returned (.bool r) ∧ Below w.heap.size w w' := by
 have HR4 := Aside0.mk hr4
 have HC4 := Aside0.mk hc4
 clear hr4 hc4
 have HR5 := Aside0.mk hr5
 have HC5 := Aside0.mk hc5
 clear hr5 hc5
 have HB := Aside0.mk (Below.refl w.heap.size w)
 subst hT_
 have H : ((rubricklaw06_Great.f k l4).bind fun t101 => (if t101 = true then (rubricklaw07_ConsLength.j0 k a0 a1 a2 a3 l4 l5 true) else ((rubricklaw06_Great.f k l5).bind fun t102 => (if t102 = true then (rubricklaw07_ConsLength.j0 k a0 a1 a2 a3 l4 l5 true) else (if (a2.size : Int) = 32 then (if (a3.size : Int) = 32 then (rubricklaw07_ConsLength.j0 k a0 a1 a2 a3 l4 l5 ((l4.length : Int) == (l5.length : Int))) else (rubricklaw07_ConsLength.j0 k a0 a1 a2 a3 l4 l5 true)) else (rubricklaw07_ConsLength.j0 k a0 a1 a2 a3 l4 l5 true)))))) = some true := h
 clear h
 have HC7 := Aside0.mk H
 clear H
 go_enter Tryd.func6, Tryd.ntmps6
 go_upto_region 1 with (fail)
 go_cut [35] (fun v35 wc => ∃ (kq : Nat) (x35_6 : Bool), v35 = .bool x35_6 ∧ Aside0 (rubricklaw07_ConsLength.j0 kq a0 a1 a2 a3 l4 l5 x35_6 = some true) ∧ Aside0 (kq ≤ k) ∧ Aside0 (Below w.heap.size w wc))
 case first =>
  have H := HC7.out
  clear HC7
  replace H := Option.bind_eq_some_iff.mp H
  obtain ⟨t101, A80, H⟩ := H
  replace H : (if t101 = true then (rubricklaw07_ConsLength.j0 k a0 a1 a2 a3 l4 l5 true) else ((rubricklaw06_Great.f k l5).bind fun t102 => (if t102 = true then (rubricklaw07_ConsLength.j0 k a0 a1 a2 a3 l4 l5 true) else (if (a2.size : Int) = 32 then (if (a3.size : Int) = 32 then (rubricklaw07_ConsLength.j0 k a0 a1 a2 a3 l4 l5 ((l4.length : Int) == (l5.length : Int))) else (rubricklaw07_ConsLength.j0 k a0 a1 a2 a3 l4 l5 true)) else (rubricklaw07_ConsLength.j0 k a0 a1 a2 a3 l4 l5 true))))) = some true := H
  have A8 := Aside0.mk A80
  clear A80
  by_cases c9 : t101 = true
  ·subst c9
   have H1 : (rubricklaw07_ConsLength.j0 k a0 a1 a2 a3 l4 l5 true) = some true := by rw [if_pos rfl] at H; exact H
   clear H
   have H := H1
   clear H1
   have H' := Aside0.mk H
   clear H
   go_wp2_with (first | ((with_reducible refine gate_callee (f := 14) rfl ?_); refine goesL_ (some 14) rfl rfl Tryd.func14 (by kernel_rfl) rfl #[.slice A4 l4.length c4] rfl (by (try simp only [List.map_toArray, List.map_cons, List.map_nil]); first | done | rfl | (simp only [List.length_drop, List.length_take]; rfl)) ?_; (with_reducible refine (rubricklaw06_Great.calls k _ _ l4 true _ ?side1 ?side2 A8.out).mono ?_); (case side1 => repeat (first | exact (Kd.C_below HR4.out HB.out) | (with_reducible refine Kd.C_alloc ?_ _) | (with_reducible refine Kd.C_drewN ?_ _) | (with_reducible refine Kd.C_drew ?_))); (case side2 => exact HC4.out); rintro e w' ⟨rfl, ⟨nd, rfl⟩⟩; refine ⟨_, rfl, ?_⟩))
   go_meet
   case rel => exact ⟨_, (true), (by first | rfl | (simp; done) | (simp [*]; done)), H', ⟨by first | omega | exact Nat.le_refl _⟩, ⟨by repeat (first | (with_reducible first | exact HB.out | apply below_alloc | apply pw_below_drewN | apply below_drew1) | exact HB.out)⟩⟩
  ·replace c9 := Bool.eq_false_iff.mpr c9
   subst c9
   have H1 : ((rubricklaw06_Great.f k l5).bind fun t102 => (if t102 = true then (rubricklaw07_ConsLength.j0 k a0 a1 a2 a3 l4 l5 true) else (if (a2.size : Int) = 32 then (if (a3.size : Int) = 32 then (rubricklaw07_ConsLength.j0 k a0 a1 a2 a3 l4 l5 ((l4.length : Int) == (l5.length : Int))) else (rubricklaw07_ConsLength.j0 k a0 a1 a2 a3 l4 l5 true)) else (rubricklaw07_ConsLength.j0 k a0 a1 a2 a3 l4 l5 true)))) = some true := by rw [if_neg (show ¬ (false = true) by decide)] at H; exact H
   clear H
   have H := H1
   clear H1
   replace H := Option.bind_eq_some_iff.mp H
   obtain ⟨t102, A100, H⟩ := H
   replace H : (if t102 = true then (rubricklaw07_ConsLength.j0 k a0 a1 a2 a3 l4 l5 true) else (if (a2.size : Int) = 32 then (if (a3.size : Int) = 32 then (rubricklaw07_ConsLength.j0 k a0 a1 a2 a3 l4 l5 ((l4.length : Int) == (l5.length : Int))) else (rubricklaw07_ConsLength.j0 k a0 a1 a2 a3 l4 l5 true)) else (rubricklaw07_ConsLength.j0 k a0 a1 a2 a3 l4 l5 true))) = some true := H
   have A10 := Aside0.mk A100
   clear A100
   by_cases c11 : t102 = true
   ·subst c11
    have H1 : (rubricklaw07_ConsLength.j0 k a0 a1 a2 a3 l4 l5 true) = some true := by rw [if_pos rfl] at H; exact H
    clear H
    have H := H1
    clear H1
    have H' := Aside0.mk H
    clear H
    go_wp2_with (first | ((with_reducible refine gate_callee (f := 14) rfl ?_); refine goesL_ (some 14) rfl rfl Tryd.func14 (by kernel_rfl) rfl #[.slice A4 l4.length c4] rfl (by (try simp only [List.map_toArray, List.map_cons, List.map_nil]); first | done | rfl | (simp only [List.length_drop, List.length_take]; rfl)) ?_; (with_reducible refine (rubricklaw06_Great.calls k _ _ l4 false _ ?side1 ?side2 A8.out).mono ?_); (case side1 => repeat (first | exact (Kd.C_below HR4.out HB.out) | (with_reducible refine Kd.C_alloc ?_ _) | (with_reducible refine Kd.C_drewN ?_ _) | (with_reducible refine Kd.C_drew ?_))); (case side2 => exact HC4.out); rintro e w' ⟨rfl, ⟨nd, rfl⟩⟩; refine ⟨_, rfl, ?_⟩) | (go_at_call 14; (with_reducible refine (rubricklaw06_Great.calls k _ _ l5 true _ ?side1 ?side2 A10.out).mono ?_); (case side1 => repeat (first | exact (Kd.C_below HR5.out (by repeat (first | (with_reducible first | exact HB.out | apply below_alloc | apply pw_below_drewN | apply below_drew1) | exact HB.out))) | (with_reducible refine Kd.C_alloc ?_ _) | (with_reducible refine Kd.C_drewN ?_ _) | (with_reducible refine Kd.C_drew ?_))); (case side2 => exact HC5.out); rintro e w' ⟨rfl, ⟨nd, rfl⟩⟩))
    go_meet
    case rel => exact ⟨_, (true), (by first | rfl | (simp; done) | (simp [*]; done)), H', ⟨by first | omega | exact Nat.le_refl _⟩, ⟨by repeat (first | (with_reducible first | exact HB.out | apply below_alloc | apply pw_below_drewN | apply below_drew1) | exact HB.out)⟩⟩
   ·replace c11 := Bool.eq_false_iff.mpr c11
    subst c11
    have H1 : (if (a2.size : Int) = 32 then (if (a3.size : Int) = 32 then (rubricklaw07_ConsLength.j0 k a0 a1 a2 a3 l4 l5 ((l4.length : Int) == (l5.length : Int))) else (rubricklaw07_ConsLength.j0 k a0 a1 a2 a3 l4 l5 true)) else (rubricklaw07_ConsLength.j0 k a0 a1 a2 a3 l4 l5 true)) = some true := by rw [if_neg (show ¬ (false = true) by decide)] at H; exact H
    clear H
    have H := H1
    clear H1
    by_cases c12 : (a2.size : Int) = 32
    ·rw [if_pos c12] at H
     have c12b0 : ((a2.size : Int) == 32) = true := beq_iff_eq.mpr c12
     have c12b1 : ((a2.size : Int) != 32) = false := bne_eq_false_iff_eq.mpr c12
     clear c12
     (first | rw [c12b0] | (simp only [i64_w, i32_w]; rw [c12b0]) | skip)
     by_cases c13 : (a3.size : Int) = 32
     ·rw [if_pos c13] at H
      have c13b0 : ((a3.size : Int) == 32) = true := beq_iff_eq.mpr c13
      have c13b1 : ((a3.size : Int) != 32) = false := bne_eq_false_iff_eq.mpr c13
      clear c13
      have H' := Aside0.mk H
      clear H
      go_wp2_with (first | ((with_reducible refine gate_callee (f := 14) rfl ?_); refine goesL_ (some 14) rfl rfl Tryd.func14 (by kernel_rfl) rfl #[.slice A4 l4.length c4] rfl (by (try simp only [List.map_toArray, List.map_cons, List.map_nil]); first | done | rfl | (simp only [List.length_drop, List.length_take]; rfl)) ?_; (with_reducible refine (rubricklaw06_Great.calls k _ _ l4 false _ ?side1 ?side2 A8.out).mono ?_); (case side1 => repeat (first | exact (Kd.C_below HR4.out HB.out) | (with_reducible refine Kd.C_alloc ?_ _) | (with_reducible refine Kd.C_drewN ?_ _) | (with_reducible refine Kd.C_drew ?_))); (case side2 => exact HC4.out); rintro e w' ⟨rfl, ⟨nd, rfl⟩⟩; refine ⟨_, rfl, ?_⟩) | (go_at_call 14; (with_reducible refine (rubricklaw06_Great.calls k _ _ l5 false _ ?side1 ?side2 A10.out).mono ?_); (case side1 => repeat (first | exact (Kd.C_below HR5.out (by repeat (first | (with_reducible first | exact HB.out | apply below_alloc | apply pw_below_drewN | apply below_drew1) | exact HB.out))) | (with_reducible refine Kd.C_alloc ?_ _) | (with_reducible refine Kd.C_drewN ?_ _) | (with_reducible refine Kd.C_drew ?_))); (case side2 => exact HC5.out); rintro e w' ⟨rfl, ⟨nd, rfl⟩⟩))
      go_meet
      case rel => exact ⟨_, (((l4.length : Int) == (l5.length : Int))), (by first | rfl | (simp; done) | (simp [*]; done)), H', ⟨by first | omega | exact Nat.le_refl _⟩, ⟨by repeat (first | (with_reducible first | exact HB.out | apply below_alloc | apply pw_below_drewN | apply below_drew1) | exact HB.out)⟩⟩
     ·rw [if_neg c13] at H
      have c13b0 : ((a3.size : Int) == 32) = false := beq_eq_false_iff_ne.mpr c13
      have c13b1 : ((a3.size : Int) != 32) = true := bne_iff_ne.mpr c13
      have H' := Aside0.mk H
      clear H
      go_wp2_with (first | ((with_reducible refine gate_callee (f := 14) rfl ?_); refine goesL_ (some 14) rfl rfl Tryd.func14 (by kernel_rfl) rfl #[.slice A4 l4.length c4] rfl (by (try simp only [List.map_toArray, List.map_cons, List.map_nil]); first | done | rfl | (simp only [List.length_drop, List.length_take]; rfl)) ?_; (with_reducible refine (rubricklaw06_Great.calls k _ _ l4 false _ ?side1 ?side2 A8.out).mono ?_); (case side1 => repeat (first | exact (Kd.C_below HR4.out HB.out) | (with_reducible refine Kd.C_alloc ?_ _) | (with_reducible refine Kd.C_drewN ?_ _) | (with_reducible refine Kd.C_drew ?_))); (case side2 => exact HC4.out); rintro e w' ⟨rfl, ⟨nd, rfl⟩⟩; refine ⟨_, rfl, ?_⟩) | (go_at_call 14; (with_reducible refine (rubricklaw06_Great.calls k _ _ l5 false _ ?side1 ?side2 A10.out).mono ?_); (case side1 => repeat (first | exact (Kd.C_below HR5.out (by repeat (first | (with_reducible first | exact HB.out | apply below_alloc | apply pw_below_drewN | apply below_drew1) | exact HB.out))) | (with_reducible refine Kd.C_alloc ?_ _) | (with_reducible refine Kd.C_drewN ?_ _) | (with_reducible refine Kd.C_drew ?_))); (case side2 => exact HC5.out); rintro e w' ⟨rfl, ⟨nd, rfl⟩⟩))
      go_meet
      case rel => exact ⟨_, (true), (by first | rfl | (simp; done) | (simp [*]; done)), H', ⟨by first | omega | exact Nat.le_refl _⟩, ⟨by repeat (first | (with_reducible first | exact HB.out | apply below_alloc | apply pw_below_drewN | apply below_drew1) | exact HB.out)⟩⟩
    ·rw [if_neg c12] at H
     have c12b0 : ((a2.size : Int) == 32) = false := beq_eq_false_iff_ne.mpr c12
     have c12b1 : ((a2.size : Int) != 32) = true := bne_iff_ne.mpr c12
     (first | rw [c12b0] | (simp only [i64_w, i32_w]; rw [c12b0]) | skip)
     have H' := Aside0.mk H
     clear H
     go_wp2_with (first | ((with_reducible refine gate_callee (f := 14) rfl ?_); refine goesL_ (some 14) rfl rfl Tryd.func14 (by kernel_rfl) rfl #[.slice A4 l4.length c4] rfl (by (try simp only [List.map_toArray, List.map_cons, List.map_nil]); first | done | rfl | (simp only [List.length_drop, List.length_take]; rfl)) ?_; (with_reducible refine (rubricklaw06_Great.calls k _ _ l4 false _ ?side1 ?side2 A8.out).mono ?_); (case side1 => repeat (first | exact (Kd.C_below HR4.out HB.out) | (with_reducible refine Kd.C_alloc ?_ _) | (with_reducible refine Kd.C_drewN ?_ _) | (with_reducible refine Kd.C_drew ?_))); (case side2 => exact HC4.out); rintro e w' ⟨rfl, ⟨nd, rfl⟩⟩; refine ⟨_, rfl, ?_⟩) | (go_at_call 14; (with_reducible refine (rubricklaw06_Great.calls k _ _ l5 false _ ?side1 ?side2 A10.out).mono ?_); (case side1 => repeat (first | exact (Kd.C_below HR5.out (by repeat (first | (with_reducible first | exact HB.out | apply below_alloc | apply pw_below_drewN | apply below_drew1) | exact HB.out))) | (with_reducible refine Kd.C_alloc ?_ _) | (with_reducible refine Kd.C_drewN ?_ _) | (with_reducible refine Kd.C_drew ?_))); (case side2 => exact HC5.out); rintro e w' ⟨rfl, ⟨nd, rfl⟩⟩))
     go_meet
     case rel => exact ⟨_, (true), (by first | rfl | (simp; done) | (simp [*]; done)), H', ⟨by first | omega | exact Nat.le_refl _⟩, ⟨by repeat (first | (with_reducible first | exact HB.out | apply below_alloc | apply pw_below_drewN | apply below_drew1) | exact HB.out)⟩⟩
 case rest =>
  clear HC7
  try clear c1
  try clear p2
  try clear c4
  try clear c5
  try clear c6
  try clear c9
  try clear c11
  try clear c12
  try clear c12b0
  try clear c12b1
  try clear c13
  try clear c13b0
  try clear c13b1
  obtain ⟨kq, x35_6, rfl, HA, HJ6, HB⟩ := hcut
  cases kq with
  | zero => exact absurd HA.out (by simp [rubricklaw07_ConsLength.j0])
  | succ kj6 =>
   have H := HA.out
   clear HA
   simp only [rubricklaw07_ConsLength.j0] at H
   by_cases c14 : x35_6 = true
   ·subst c14
    have H1 : ((rubricklaw07_knows.f kj6).bind fun t103 => (some t103)) = some true := by rw [if_pos rfl] at H; exact H
    clear H
    have H := H1
    clear H1
    replace H := Option.bind_eq_some_iff.mp H
    obtain ⟨t103, A150, H⟩ := H
    replace H : (some t103) = some true := H
    have A15 := Aside0.mk A150
    clear A150
    have HT2_ := Aside0.mk (Option.some.inj H)
    clear H
    go_wp2_with (first | ((with_reducible refine gate_callee (f := 15) rfl ?_); refine goesL_ (some 36) rfl rfl Tryd.func15 (by kernel_rfl) rfl #[] rfl (by (try simp only [List.map_toArray, List.map_cons, List.map_nil]); first | done | rfl | (simp only [List.length_drop, List.length_take]; rfl)) ?_; (with_reducible refine (rubricklaw07_knows.calls kj6  t103 _ ?side1 A15.out).mono ?_); (case side1 => exact gw_step hG_ (by repeat (first | (with_reducible first | exact HB.out | apply below_alloc | apply pw_below_drewN | apply below_drew1) | exact HB.out))); rintro e w16 ⟨rfl, hb⟩; refine ⟨_, rfl, ?_⟩; have n0_ := Aside0.mk (below_step (by repeat (first | (with_reducible first | exact HB.out | apply below_alloc | apply pw_below_drewN | apply below_drew1) | exact HB.out)) hb); clear HB; have HB := n0_; clear n0_; (try clear hb); (try clear hb2); (try clear hk); (try clear hi)))
    go_ret
    exact ⟨by first | rfl | (simp [errW_none, errW_some] <;> rfl) | exact congrArg (fun b_ : Bool => Ending.returned (Value.bool b_)) HT2_.out | (simp [*, errW_none, errW_some] <;> rfl), by repeat (first | (with_reducible first | exact HB.out | apply below_alloc | apply pw_below_drewN | apply below_drew1) | exact HB.out)⟩
   ·replace c14 := Bool.eq_false_iff.mpr c14
    subst c14
    have H1 : ((cons_Check.f kj6 a0 a1 a2 a3 l4).bind fun t104 => (if t104 = 0 then ((cons_Check.f kj6 a0 a1 a2 a3 l5).bind fun t105 => (if t105 = 0 then (some false) else ((rubricklaw07_knows.f kj6).bind fun t106 => (some t106)))) else ((rubricklaw07_knows.f kj6).bind fun t107 => (some t107)))) = some true := by rw [if_neg (show ¬ (false = true) by decide)] at H; exact H
    clear H
    have H := H1
    clear H1
    replace H := Option.bind_eq_some_iff.mp H
    obtain ⟨t104, A170, H⟩ := H
    replace H : (if t104 = 0 then ((cons_Check.f kj6 a0 a1 a2 a3 l5).bind fun t105 => (if t105 = 0 then (some false) else ((rubricklaw07_knows.f kj6).bind fun t106 => (some t106)))) else ((rubricklaw07_knows.f kj6).bind fun t107 => (some t107))) = some true := H
    have A17 := Aside0.mk A170
    clear A170
    by_cases c18 : t104 = 0
    ·rw [if_pos c18] at H
     have c18b0 : (t104 == 0) = true := beq_iff_eq.mpr c18
     have c18b1 : (t104 != 0) = false := bne_eq_false_iff_eq.mpr c18
     clear c18
     replace H := Option.bind_eq_some_iff.mp H
     obtain ⟨t105, A190, H⟩ := H
     replace H : (if t105 = 0 then (some false) else ((rubricklaw07_knows.f kj6).bind fun t106 => (some t106))) = some true := H
     have A19 := Aside0.mk A190
     clear A190
     by_cases c20 : t105 = 0
     ·rw [if_pos c20] at H
      have c20b0 : (t105 == 0) = true := beq_iff_eq.mpr c20
      have c20b1 : (t105 != 0) = false := bne_eq_false_iff_eq.mpr c20
      clear c20
      cases H
     ·rw [if_neg c20] at H
      have c20b0 : (t105 == 0) = false := beq_eq_false_iff_ne.mpr c20
      have c20b1 : (t105 != 0) = true := bne_iff_ne.mpr c20
      replace H := Option.bind_eq_some_iff.mp H
      obtain ⟨t106, A210, H⟩ := H
      replace H : (some t106) = some true := H
      have A21 := Aside0.mk A210
      clear A210
      have HT2_ := Aside0.mk (Option.some.inj H)
      clear H
      go_wp2_with (first | ((with_reducible refine gate_callee (f := 20) rfl ?_); refine goesL_ (some 42) rfl rfl Tryd.func20 (by kernel_rfl) rfl #[.int .i64 a0, .int .i64 a1, .string a2, .string a3, .slice A4 l4.length c4] rfl (by (try simp only [List.map_toArray, List.map_cons, List.map_nil]); first | done | rfl | (simp only [List.length_drop, List.length_take]; rfl)) ?_; (with_reducible refine (cons_Check.calls kj6 a0 a1 a2 a3 _ _ l4 t104 _ ?side3 ?side1 ?side2 A17.out).mono ?_); (case side1 => repeat (first | exact (Kd.C_below HR4.out HB.out) | (with_reducible refine Kd.C_alloc ?_ _) | (with_reducible refine Kd.C_drewN ?_ _) | (with_reducible refine Kd.C_drew ?_))); (case side2 => exact HC4.out); (case side3 => exact gw_step hG_ (by repeat (first | (with_reducible first | exact HB.out | apply below_alloc | apply pw_below_drewN | apply below_drew1) | exact HB.out))); rintro e w22 ⟨rfl, hb⟩; refine ⟨_, rfl, ?_⟩; have n0_ := Aside0.mk (below_step (by repeat (first | (with_reducible first | exact HB.out | apply below_alloc | apply pw_below_drewN | apply below_drew1) | exact HB.out)) hb); clear HB; have HB := n0_; clear n0_; (try clear hb); (try clear hb2); (try clear hk); (try clear hi)) | (go_at_call 20; (with_reducible refine (cons_Check.calls kj6 a0 a1 a2 a3 _ _ l5 t105 _ ?side3 ?side1 ?side2 A19.out).mono ?_); (case side1 => repeat (first | exact (Kd.C_below HR5.out HB.out) | (with_reducible refine Kd.C_alloc ?_ _) | (with_reducible refine Kd.C_drewN ?_ _) | (with_reducible refine Kd.C_drew ?_))); (case side2 => exact HC5.out); (case side3 => exact gw_step hG_ (by repeat (first | (with_reducible first | exact HB.out | apply below_alloc | apply pw_below_drewN | apply below_drew1) | exact HB.out))); rintro e w23 ⟨rfl, hb⟩; have n0_ := Aside0.mk (below_step (by repeat (first | (with_reducible first | exact HB.out | apply below_alloc | apply pw_below_drewN | apply below_drew1) | exact HB.out)) hb); clear HB; have HB := n0_; clear n0_; (try clear hb); (try clear hb2); (try clear hk); (try clear hi)) | (go_at_call 15; (with_reducible refine (rubricklaw07_knows.calls kj6  t106 _ ?side1 A21.out).mono ?_); (case side1 => exact gw_step hG_ (by repeat (first | (with_reducible first | exact HB.out | apply below_alloc | apply pw_below_drewN | apply below_drew1) | exact HB.out))); rintro e w24 ⟨rfl, hb⟩; have n0_ := Aside0.mk (below_step (by repeat (first | (with_reducible first | exact HB.out | apply below_alloc | apply pw_below_drewN | apply below_drew1) | exact HB.out)) hb); clear HB; have HB := n0_; clear n0_; (try clear hb); (try clear hb2); (try clear hk); (try clear hi)))
      go_ret
      exact ⟨by first | rfl | (simp [errW_none, errW_some] <;> rfl) | exact congrArg (fun b_ : Bool => Ending.returned (Value.bool b_)) HT2_.out | (simp [*, errW_none, errW_some] <;> rfl), by repeat (first | (with_reducible first | exact HB.out | apply below_alloc | apply pw_below_drewN | apply below_drew1) | exact HB.out)⟩
    ·rw [if_neg c18] at H
     have c18b0 : (t104 == 0) = false := beq_eq_false_iff_ne.mpr c18
     have c18b1 : (t104 != 0) = true := bne_iff_ne.mpr c18
     replace H := Option.bind_eq_some_iff.mp H
     obtain ⟨t107, A250, H⟩ := H
     replace H : (some t107) = some true := H
     have A25 := Aside0.mk A250
     clear A250
     have HT2_ := Aside0.mk (Option.some.inj H)
     clear H
     go_wp2_with (first | ((with_reducible refine gate_callee (f := 20) rfl ?_); refine goesL_ (some 42) rfl rfl Tryd.func20 (by kernel_rfl) rfl #[.int .i64 a0, .int .i64 a1, .string a2, .string a3, .slice A4 l4.length c4] rfl (by (try simp only [List.map_toArray, List.map_cons, List.map_nil]); first | done | rfl | (simp only [List.length_drop, List.length_take]; rfl)) ?_; (with_reducible refine (cons_Check.calls kj6 a0 a1 a2 a3 _ _ l4 t104 _ ?side3 ?side1 ?side2 A17.out).mono ?_); (case side1 => repeat (first | exact (Kd.C_below HR4.out HB.out) | (with_reducible refine Kd.C_alloc ?_ _) | (with_reducible refine Kd.C_drewN ?_ _) | (with_reducible refine Kd.C_drew ?_))); (case side2 => exact HC4.out); (case side3 => exact gw_step hG_ (by repeat (first | (with_reducible first | exact HB.out | apply below_alloc | apply pw_below_drewN | apply below_drew1) | exact HB.out))); rintro e w26 ⟨rfl, hb⟩; refine ⟨_, rfl, ?_⟩; have n0_ := Aside0.mk (below_step (by repeat (first | (with_reducible first | exact HB.out | apply below_alloc | apply pw_below_drewN | apply below_drew1) | exact HB.out)) hb); clear HB; have HB := n0_; clear n0_; (try clear hb); (try clear hb2); (try clear hk); (try clear hi)) | (go_at_call 15; (with_reducible refine (rubricklaw07_knows.calls kj6  t107 _ ?side1 A25.out).mono ?_); (case side1 => exact gw_step hG_ (by repeat (first | (with_reducible first | exact HB.out | apply below_alloc | apply pw_below_drewN | apply below_drew1) | exact HB.out))); rintro e w27 ⟨rfl, hb⟩; have n0_ := Aside0.mk (below_step (by repeat (first | (with_reducible first | exact HB.out | apply below_alloc | apply pw_below_drewN | apply below_drew1) | exact HB.out)) hb); clear HB; have HB := n0_; clear n0_; (try clear hb); (try clear hb2); (try clear hk); (try clear hi)))
     go_ret
     exact ⟨by first | rfl | (simp [errW_none, errW_some] <;> rfl) | exact congrArg (fun b_ : Bool => Ending.returned (Value.bool b_)) HT2_.out | (simp [*, errW_none, errW_some] <;> rfl), by repeat (first | (with_reducible first | exact HB.out | apply below_alloc | apply pw_below_drewN | apply below_drew1) | exact HB.out)⟩
end Go.Proofs.YtpmefpdafkbphaaDoor.PConsLength

import Derived.Test.YtgcfhgkhokljcaaDoorProg
import Derived.Below
import Derived.Deep.Draws
import Derived.Deep.AppendLies
import Derived.Maps.AppendAt
import Derived.OwnWalk
import Derived.Laws.BytesArg
import Derived.Laws.MakeOwn
import Derived.Laws.OwnMore
import Derived.Deep.OwnRows
import Derived.Tactics
import Derived.Lib.ConvBytes
import Derived.Laws.Slices
import Derived.WalkKit
import Derived.KernelRfl
import Derived.RowKit3
import Derived.Deep.LoopGhost
import Derived.Deep.QuietTactic
import Derived.BigQuiet
import Derived.WideLaws
import Derived.Deep.DeepCutAuto
import Derived.Deep.CutBlock
import Derived.Deep.RegionHeld3
import Derived.Laws.Rows
import Derived.Lib.AppendStr
import Derived.ArgAppend
import Derived.Laws.IdiomCopy
import Derived.OrdersHeld
import Derived.Laws.BitsLemmas
import Derived.RowKit
import Derived.WalkMore
import Derived.Test.YtgcfhgkhokljcaaDoorZaHShaD
import Derived.Test.YtgcfhgkhokljcaaDoorZaPS
import Derived.Test.YtgcfhgkhokljcaaDoorZaPR
import Derived.Test.YtgcfhgkhokljcaaDoorZaPT
import Derived.Test.YtgcfhgkhokljcaaDoorZaPB
import Derived.Test.YtgcfhgkhokljcaaDoorZaHNode
import Derived.Test.YtgcfhgkhokljcaaDoorZaPC
import Derived.Test.YtgcfhgkhokljcaaDoorZaPK
import Derived.Test.YtgcfhgkhokljcaaDoorZaWWords
import Derived.Test.YtgcfhgkhokljcaaDoorZaWLast
import Derived.Test.YtgcfhgkhokljcaaDoorZaWTab
import Derived.Test.YtgcfhgkhokljcaaDoorZaWApart
import Derived.Test.YtgcfhgkhokljcaaDoorZaWFoot
import Derived.Test.YtgcfhgkhokljcaaDoorZaWKept
import Derived.Test.YtgcfhgkhokljcaaDoorZaWShare
import Derived.Test.YtgcfhgkhokljcaaDoorZaWN
import Derived.Laws.StructEq
import Derived.Test.YtgcfhgkhokljcaaDoorZaWRepsOne
import Derived.Test.YtgcfhgkhokljcaaDoorZaWInv
import Derived.Test.YtgcfhgkhokljcaaDoorZaWGuard
import Derived.Test.YtgcfhgkhokljcaaDoorZaWNEv
import Derived.Test.YtgcfhgkhokljcaaDoorZaWMore
-- PRINTED by print.py (a twelfth state) out of the translation. Not trusted: Lean checks it.
namespace Go.Proofs.YtgcfhgkhokljcaaDoor.PTreeClimbs
open Go.RowKit  Go.Proofs.YtgcfhgkhokljcaaDoor.HSha Go.Proofs.YtgcfhgkhokljcaaDoor.PS Go.Proofs.YtgcfhgkhokljcaaDoor.PR Go.Proofs.YtgcfhgkhokljcaaDoor.PT Go.Proofs.YtgcfhgkhokljcaaDoor.PB Go.Proofs.YtgcfhgkhokljcaaDoor.HNode Go.Proofs.YtgcfhgkhokljcaaDoor.PC Go.Proofs.YtgcfhgkhokljcaaDoor.PK Go.Proofs.YtgcfhgkhokljcaaDoorW.PrintWords Go.Proofs.YtgcfhgkhokljcaaDoorW.PrintLast Go.Proofs.YtgcfhgkhokljcaaDoorW.PrintMore
attribute [local go_sem] max2_int min2_int max_two min_two max_three min_three max_four min_four   -- for this text's walks alone
set_option linter.unusedVariables false
set_option linter.unusedSimpArgs false
def errW : Option Int → Value
 | none => .nilIface
 | some c => .iface 0 (.int .i64 c)
theorem errW_none : errW none = .nilIface := rfl
theorem errW_some (c : Int) : errW (some c) = .iface 0 (.int .i64 c) := rfl
-- the values' own types
end Go.Proofs.YtgcfhgkhokljcaaDoor.PTreeClimbs
namespace Go.Proofs.YtgcfhgkhokljcaaDoor.PTreeClimbs
open Go.RowKit  Go.Proofs.YtgcfhgkhokljcaaDoor.HSha Go.Proofs.YtgcfhgkhokljcaaDoor.PS Go.Proofs.YtgcfhgkhokljcaaDoor.PR Go.Proofs.YtgcfhgkhokljcaaDoor.PT Go.Proofs.YtgcfhgkhokljcaaDoor.PB Go.Proofs.YtgcfhgkhokljcaaDoor.HNode Go.Proofs.YtgcfhgkhokljcaaDoor.PC Go.Proofs.YtgcfhgkhokljcaaDoor.PK Go.Proofs.YtgcfhgkhokljcaaDoorW.PrintWords Go.Proofs.YtgcfhgkhokljcaaDoorW.PrintLast Go.Proofs.YtgcfhgkhokljcaaDoorW.PrintMore
attribute [local go_sem] max2_int min2_int max_two min_two max_three min_three max_four min_four   -- for this text's walks alone
set_option linter.unusedVariables false
set_option linter.unusedSimpArgs false
/-! ### rubricklaw06_TreeClimbs: function 4 -/
mutual
def rubricklaw06_TreeClimbs.j0 : Nat → ByteArray → Int → Int → List ByteArray → Bool → Option (Bool)
 | 0, _, _, _, _, _ => none
 | k + 1, x0, x1, x2, x3, x17 => if x17 = true then ((rubricklaw06_knows.f k).bind fun t102 => (some t102)) else ((tree_Climb.f k x0 x1 x2 x3).bind fun bt103 => (if (x0.size : Int) = 32 then (if x2 < 1 then (rubricklaw06_TreeClimbs.j1 k x0 x1 x2 x3 bt103.1 bt103.2 true) else (if x2 > 1099511627776 then (rubricklaw06_TreeClimbs.j1 k x0 x1 x2 x3 bt103.1 bt103.2 true) else (if x1 < 0 then (rubricklaw06_TreeClimbs.j1 k x0 x1 x2 x3 bt103.1 bt103.2 true) else (rubricklaw06_TreeClimbs.j1 k x0 x1 x2 x3 bt103.1 bt103.2 (decide (x1 ≥ x2)))))) else (rubricklaw06_TreeClimbs.j1 k x0 x1 x2 x3 bt103.1 bt103.2 true)))
def rubricklaw06_TreeClimbs.j1 : Nat → ByteArray → Int → Int → List ByteArray → ByteArray → Int → Bool → Option (Bool)
 | 0, _, _, _, _, _, _, _ => none
 | k + 1, x0, x1, x2, x3, x9, x10, x46 => if x46 = true then (if x9.toList = ([] : List UInt8) then (if x10 = 1 then ((rubricklaw06_knows.f k).bind fun t105 => (some t105)) else (some false)) else (some false)) else ((rubrickref06_Steps.f k x1 x2).bind fun t106 => (if (x3.length : Int) = t106 then ((rubrickref06_Right.f k x3).bind fun t107 => (rubricklaw06_TreeClimbs.j2 k x0 x1 x2 x3 x9 x10 (!t107))) else (rubricklaw06_TreeClimbs.j2 k x0 x1 x2 x3 x9 x10 true)))
def rubricklaw06_TreeClimbs.j2 : Nat → ByteArray → Int → Int → List ByteArray → ByteArray → Int → Bool → Option (Bool)
 | 0, _, _, _, _, _, _, _ => none
 | k + 1, x0, x1, x2, x3, x9, x10, x66 => if x66 = true then (if x9.toList = ([] : List UInt8) then (if x10 = 6 then ((rubricklaw06_knows.f k).bind fun t108 => (some t108)) else (some false)) else (some false)) else ((rubrickref06_Climb.f k x0 x1 x2 x3).bind fun t109 => (if x9.toList = t109.toList then (if x10 = 0 then ((rubricklaw06_knows.f k).bind fun t110 => (some t110)) else (some false)) else (some false)))
end
def rubricklaw06_TreeClimbs.f (k : Nat) (a0 : ByteArray) (a1 : Int) (a2 : Int) (l3 : List ByteArray) : Option (Bool) := (rubricklaw06_Great.f k l3).bind fun t101 => (if t101 = true then (rubricklaw06_TreeClimbs.j0 k a0 a1 a2 l3 true) else (rubricklaw06_TreeClimbs.j0 k a0 a1 a2 l3 (decide ((a0.size : Int) > 1000))))
set_option maxHeartbeats 8000000 in
set_option maxRecDepth 100000 in
theorem rubricklaw06_TreeClimbs.calls (k : Nat) (a0 : ByteArray) (a1 : Int) (a2 : Int) (A3 : Option Addr) (c3 : Nat) (l3 : List ByteArray) (r : Bool) (w : World) (hG_ : Aside0 (GW w)) (hr3 : Kd.C Kd.string w A3 l3.length l3) (hc3 : l3.length ≤ c3) (h : rubricklaw06_TreeClimbs.f k a0 a1 a2 l3 = some r) (hT_ : r = true) :
  Calls Tryd.prog 4 #[.string a0, .int .i64 a1, .int .i64 a2, .slice A3 l3.length c3] w fun e w' => e = .returned (.bool r) ∧ Below w.heap.size w w' := by
 have HR3 := Aside0.mk hr3
 have HC3 := Aside0.mk hc3
 clear hr3 hc3
 have HB := Aside0.mk (Below.refl w.heap.size w)
 subst hT_
 have H : ((rubricklaw06_Great.f k l3).bind fun t101 => (if t101 = true then (rubricklaw06_TreeClimbs.j0 k a0 a1 a2 l3 true) else (rubricklaw06_TreeClimbs.j0 k a0 a1 a2 l3 (decide ((a0.size : Int) > 1000))))) = some true := h
 clear h
 have HC5 := Aside0.mk H
 clear H
 go_enter Tryd.func4, Tryd.ntmps4
 go_upto_region 1 with (fail)
 go_cut [17] (fun v17 wc => ∃ (kq : Nat) (x17_4 : Bool), v17 = .bool x17_4 ∧ Aside0 (rubricklaw06_TreeClimbs.j0 kq a0 a1 a2 l3 x17_4 = some true) ∧ Aside0 (kq ≤ k) ∧ Aside0 (Below w.heap.size w wc))
 case first =>
  have H := HC5.out
  clear HC5
  replace H := Option.bind_eq_some_iff.mp H
  obtain ⟨t101, A60, H⟩ := H
  replace H : (if t101 = true then (rubricklaw06_TreeClimbs.j0 k a0 a1 a2 l3 true) else (rubricklaw06_TreeClimbs.j0 k a0 a1 a2 l3 (decide ((a0.size : Int) > 1000)))) = some true := H
  have A6 := Aside0.mk A60
  clear A60
  by_cases c7 : t101 = true
  ·subst c7
   have H1 : (rubricklaw06_TreeClimbs.j0 k a0 a1 a2 l3 true) = some true := by rw [if_pos rfl] at H; exact H
   clear H
   have H := H1
   clear H1
   have H' := Aside0.mk H
   clear H
   go_wp2_with (first | ((with_reducible refine gate_callee (f := 11) rfl ?_); refine goesL_ (some 12) rfl rfl Tryd.func11 (by kernel_rfl) rfl #[.slice A3 l3.length c3] rfl (by (try simp only [List.map_toArray, List.map_cons, List.map_nil]); first | done | rfl | (simp only [List.length_drop, List.length_take]; rfl)) ?_; (with_reducible refine (rubricklaw06_Great.calls k _ _ l3 true _ ?side1 ?side2 A6.out).mono ?_); (case side1 => repeat (first | exact (Kd.C_below HR3.out HB.out) | (with_reducible refine Kd.C_alloc ?_ _) | (with_reducible refine Kd.C_drewN ?_ _) | (with_reducible refine Kd.C_drew ?_))); (case side2 => exact HC3.out); rintro e w' ⟨rfl, ⟨nd, rfl⟩⟩; refine ⟨_, rfl, ?_⟩))
   go_meet
   case rel => exact ⟨_, (true), (by first | rfl | (simp; done) | (simp [*]; done)), H', ⟨by first | omega | exact Nat.le_refl _⟩, ⟨by repeat (first | (with_reducible first | exact HB.out | apply below_alloc | apply pw_below_drewN | apply below_drew1) | exact HB.out)⟩⟩
  ·replace c7 := Bool.eq_false_iff.mpr c7
   subst c7
   have H1 : (rubricklaw06_TreeClimbs.j0 k a0 a1 a2 l3 (decide ((a0.size : Int) > 1000))) = some true := by rw [if_neg (show ¬ (false = true) by decide)] at H; exact H
   clear H
   have H := H1
   clear H1
   have H' := Aside0.mk H
   clear H
   go_wp2_with (first | ((with_reducible refine gate_callee (f := 11) rfl ?_); refine goesL_ (some 12) rfl rfl Tryd.func11 (by kernel_rfl) rfl #[.slice A3 l3.length c3] rfl (by (try simp only [List.map_toArray, List.map_cons, List.map_nil]); first | done | rfl | (simp only [List.length_drop, List.length_take]; rfl)) ?_; (with_reducible refine (rubricklaw06_Great.calls k _ _ l3 false _ ?side1 ?side2 A6.out).mono ?_); (case side1 => repeat (first | exact (Kd.C_below HR3.out HB.out) | (with_reducible refine Kd.C_alloc ?_ _) | (with_reducible refine Kd.C_drewN ?_ _) | (with_reducible refine Kd.C_drew ?_))); (case side2 => exact HC3.out); rintro e w' ⟨rfl, ⟨nd, rfl⟩⟩; refine ⟨_, rfl, ?_⟩))
   go_meet
   case rel => exact ⟨_, (decide ((a0.size : Int) > 1000)), (by first | rfl | (simp; done) | (simp [*]; done)), H', ⟨by first | omega | exact Nat.le_refl _⟩, ⟨by repeat (first | (with_reducible first | exact HB.out | apply below_alloc | apply pw_below_drewN | apply below_drew1) | exact HB.out)⟩⟩
 case rest =>
  clear HC5
  try clear c1
  try clear p2
  try clear c3
  try clear c4
  try clear c7
  obtain ⟨kq, x17_4, rfl, HA, HJ4, HB⟩ := hcut
  cases kq with
  | zero => exact absurd HA.out (by simp [rubricklaw06_TreeClimbs.j0])
  | succ kj4 =>
   have H := HA.out
   clear HA
   simp only [rubricklaw06_TreeClimbs.j0] at H
   by_cases c8 : x17_4 = true
   ·subst c8
    have H1 : ((rubricklaw06_knows.f kj4).bind fun t102 => (some t102)) = some true := by rw [if_pos rfl] at H; exact H
    clear H
    have H := H1
    clear H1
    replace H := Option.bind_eq_some_iff.mp H
    obtain ⟨t102, A90, H⟩ := H
    replace H : (some t102) = some true := H
    have A9 := Aside0.mk A90
    clear A90
    have HT2_ := Aside0.mk (Option.some.inj H)
    clear H
    go_wp2_with (first | ((with_reducible refine gate_callee (f := 12) rfl ?_); refine goesL_ (some 18) rfl rfl Tryd.func12 (by kernel_rfl) rfl #[] rfl (by (try simp only [List.map_toArray, List.map_cons, List.map_nil]); first | done | rfl | (simp only [List.length_drop, List.length_take]; rfl)) ?_; (with_reducible refine (rubricklaw06_knows.calls kj4  t102 _ ?side1 A9.out).mono ?_); (case side1 => exact gw_step hG_ (by repeat (first | (with_reducible first | exact HB.out | apply below_alloc | apply pw_below_drewN | apply below_drew1) | exact HB.out))); rintro e w10 ⟨rfl, hb⟩; refine ⟨_, rfl, ?_⟩; have n0_ := Aside0.mk (below_step (by repeat (first | (with_reducible first | exact HB.out | apply below_alloc | apply pw_below_drewN | apply below_drew1) | exact HB.out)) hb); clear HB; have HB := n0_; clear n0_; (try clear hb); (try clear hb2); (try clear hk); (try clear hi)))
    go_ret
    exact ⟨by first | rfl | (simp [errW_none, errW_some] <;> rfl) | exact congrArg (fun b_ : Bool => Ending.returned (Value.bool b_)) HT2_.out | (simp [*, errW_none, errW_some] <;> rfl), by repeat (first | (with_reducible first | exact HB.out | apply below_alloc | apply pw_below_drewN | apply below_drew1) | exact HB.out)⟩
   ·replace c8 := Bool.eq_false_iff.mpr c8
    subst c8
    have H1 : ((tree_Climb.f kj4 a0 a1 a2 l3).bind fun bt103 => (if (a0.size : Int) = 32 then (if a2 < 1 then (rubricklaw06_TreeClimbs.j1 kj4 a0 a1 a2 l3 bt103.1 bt103.2 true) else (if a2 > 1099511627776 then (rubricklaw06_TreeClimbs.j1 kj4 a0 a1 a2 l3 bt103.1 bt103.2 true) else (if a1 < 0 then (rubricklaw06_TreeClimbs.j1 kj4 a0 a1 a2 l3 bt103.1 bt103.2 true) else (rubricklaw06_TreeClimbs.j1 kj4 a0 a1 a2 l3 bt103.1 bt103.2 (decide (a1 ≥ a2)))))) else (rubricklaw06_TreeClimbs.j1 kj4 a0 a1 a2 l3 bt103.1 bt103.2 true))) = some true := by rw [if_neg (show ¬ (false = true) by decide)] at H; exact H
    clear H
    have H := H1
    clear H1
    replace H := Option.bind_eq_some_iff.mp H
    obtain ⟨⟨t103, t104⟩, A110, H⟩ := H
    replace H : (if (a0.size : Int) = 32 then (if a2 < 1 then (rubricklaw06_TreeClimbs.j1 kj4 a0 a1 a2 l3 t103 t104 true) else (if a2 > 1099511627776 then (rubricklaw06_TreeClimbs.j1 kj4 a0 a1 a2 l3 t103 t104 true) else (if a1 < 0 then (rubricklaw06_TreeClimbs.j1 kj4 a0 a1 a2 l3 t103 t104 true) else (rubricklaw06_TreeClimbs.j1 kj4 a0 a1 a2 l3 t103 t104 (decide (a1 ≥ a2)))))) else (rubricklaw06_TreeClimbs.j1 kj4 a0 a1 a2 l3 t103 t104 true)) = some true := H
    have A11 := Aside0.mk A110
    clear A110
    have HC12 := Aside0.mk H
    clear H
    go_upto_region 4 with (first | ((with_reducible refine gate_callee (f := 17) rfl ?_); refine goesL_ (some 24) rfl rfl Tryd.func17 (by kernel_rfl) rfl #[.string a0, .int .i64 a1, .int .i64 a2, .slice A3 l3.length c3] rfl (by (try simp only [List.map_toArray, List.map_cons, List.map_nil]); first | done | rfl | (simp only [List.length_drop, List.length_take]; rfl)) ?_; (with_reducible refine (tree_Climb.calls kj4 a0 a1 a2 _ _ l3 t103 t104 _ ?side3 ?side1 ?side2 A11.out).mono ?_); (case side1 => repeat (first | exact (Kd.C_below HR3.out HB.out) | (with_reducible refine Kd.C_alloc ?_ _) | (with_reducible refine Kd.C_drewN ?_ _) | (with_reducible refine Kd.C_drew ?_))); (case side2 => exact HC3.out); (case side3 => exact gw_step hG_ (by repeat (first | (with_reducible first | exact HB.out | apply below_alloc | apply pw_below_drewN | apply below_drew1) | exact HB.out))); rintro e w13 ⟨rfl, hb⟩; refine ⟨_, rfl, ?_⟩; have n0_ := Aside0.mk (below_step (by repeat (first | (with_reducible first | exact HB.out | apply below_alloc | apply pw_below_drewN | apply below_drew1) | exact HB.out)) hb); clear HB; have HB := n0_; clear n0_; (try clear hb); (try clear hb2); (try clear hk); (try clear hi)))
    (try simp only [Act.put, List.setIfInBounds_toArray, List.set_cons_zero, List.set_cons_succ])
    go_cut [46] (fun v46 wc => ∃ (kq : Nat) (x46_11 : Bool), v46 = .bool x46_11 ∧ Aside0 (rubricklaw06_TreeClimbs.j1 kq a0 a1 a2 l3 t103 t104 x46_11 = some true) ∧ Aside0 (kq ≤ kj4) ∧ Aside0 (Below w.heap.size w wc))
    case first =>
     have H := HC12.out
     clear HC12
     by_cases c14 : (a0.size : Int) = 32
     ·rw [if_pos c14] at H
      have c14b0 : ((a0.size : Int) == 32) = true := beq_iff_eq.mpr c14
      have c14b1 : ((a0.size : Int) != 32) = false := bne_eq_false_iff_eq.mpr c14
      clear c14
      (first | rw [c14b0] | (simp only [i64_w, i32_w]; rw [c14b0]) | skip)
      by_cases c15 : a2 < 1
      ·rw [if_pos c15] at H
       have c15b0 : decide (a2 < 1) = true := decide_eq_true c15
       clear c15
       have H' := Aside0.mk H
       clear H
       go_wp2
       go_meet
       case rel => exact ⟨_, (true), (by first | rfl | (simp; done) | (simp [*]; done)), H', ⟨by have := HJ4.out; first | omega | exact Nat.le_refl _⟩, ⟨by repeat (first | (with_reducible first | exact HB.out | apply below_alloc | apply pw_below_drewN | apply below_drew1) | exact HB.out)⟩⟩
      ·rw [if_neg c15] at H
       have c15b0 : decide (a2 < 1) = false := decide_eq_false c15
       clear c15
       by_cases c16 : a2 > 1099511627776
       ·rw [if_pos c16] at H
        have c16b0 : decide (1099511627776 < a2) = true := decide_eq_true c16
        clear c16
        have H' := Aside0.mk H
        clear H
        go_wp2
        go_meet
        case rel => exact ⟨_, (true), (by first | rfl | (simp; done) | (simp [*]; done)), H', ⟨by have := HJ4.out; first | omega | exact Nat.le_refl _⟩, ⟨by repeat (first | (with_reducible first | exact HB.out | apply below_alloc | apply pw_below_drewN | apply below_drew1) | exact HB.out)⟩⟩
       ·rw [if_neg c16] at H
        have c16b0 : decide (1099511627776 < a2) = false := decide_eq_false c16
        clear c16
        by_cases c17 : a1 < 0
        ·rw [if_pos c17] at H
         have c17b0 : decide (a1 < 0) = true := decide_eq_true c17
         clear c17
         have H' := Aside0.mk H
         clear H
         go_wp2
         go_meet
         case rel => exact ⟨_, (true), (by first | rfl | (simp; done) | (simp [*]; done)), H', ⟨by have := HJ4.out; first | omega | exact Nat.le_refl _⟩, ⟨by repeat (first | (with_reducible first | exact HB.out | apply below_alloc | apply pw_below_drewN | apply below_drew1) | exact HB.out)⟩⟩
        ·rw [if_neg c17] at H
         have c17b0 : decide (a1 < 0) = false := decide_eq_false c17
         clear c17
         have H' := Aside0.mk H
         clear H
         go_wp2
         go_meet
         case rel => exact ⟨_, (decide (a1 ≥ a2)), (by first | rfl | (simp; done) | (simp [*]; done)), H', ⟨by have := HJ4.out; first | omega | exact Nat.le_refl _⟩, ⟨by repeat (first | (with_reducible first | exact HB.out | apply below_alloc | apply pw_below_drewN | apply below_drew1) | exact HB.out)⟩⟩
     ·rw [if_neg c14] at H
      have c14b0 : ((a0.size : Int) == 32) = false := beq_eq_false_iff_ne.mpr c14
      have c14b1 : ((a0.size : Int) != 32) = true := bne_iff_ne.mpr c14
      (first | rw [c14b0] | (simp only [i64_w, i32_w]; rw [c14b0]) | skip)
      have H' := Aside0.mk H
      clear H
      go_wp2
      go_meet
      case rel => exact ⟨_, (true), (by first | rfl | (simp; done) | (simp [*]; done)), H', ⟨by have := HJ4.out; first | omega | exact Nat.le_refl _⟩, ⟨by repeat (first | (with_reducible first | exact HB.out | apply below_alloc | apply pw_below_drewN | apply below_drew1) | exact HB.out)⟩⟩
    case rest =>
     clear HC12
     try clear c1
     try clear p2
     try clear c3
     try clear c4
     try clear c7
     try clear c8
     try clear c11
     try clear c12
     try clear c14
     try clear c14b0
     try clear c14b1
     try clear c15
     try clear c15b0
     try clear c16
     try clear c16b0
     try clear c17
     try clear c17b0
     try clear p2
     obtain ⟨kq, x46_11, rfl, HA, HJ11, HB⟩ := hcut
     cases kq with
     | zero => exact absurd HA.out (by simp [rubricklaw06_TreeClimbs.j1])
     | succ kj11 =>
      have H := HA.out
      clear HA
      simp only [rubricklaw06_TreeClimbs.j1] at H
      by_cases c18 : x46_11 = true
      ·subst c18
       have H1 : (if t103.toList = ([] : List UInt8) then (if t104 = 1 then ((rubricklaw06_knows.f kj11).bind fun t105 => (some t105)) else (some false)) else (some false)) = some true := by rw [if_pos rfl] at H; exact H
       clear H
       have H := H1
       clear H1
       by_cases c19 : t103.toList = ([] : List UInt8)
       ·rw [if_pos c19] at H
        have c19b0 : (t103.toList == ([] : List UInt8)) = true := beq_iff_eq.mpr c19
        have c19b1 : (t103.toList != ([] : List UInt8)) = false := bne_eq_false_iff_eq.mpr c19
        clear c19
        by_cases c20 : t104 = 1
        ·rw [if_pos c20] at H
         have c20b0 : (t104 == 1) = true := beq_iff_eq.mpr c20
         have c20b1 : (t104 != 1) = false := bne_eq_false_iff_eq.mpr c20
         clear c20
         replace H := Option.bind_eq_some_iff.mp H
         obtain ⟨t105, A210, H⟩ := H
         replace H : (some t105) = some true := H
         have A21 := Aside0.mk A210
         clear A210
         have HT2_ := Aside0.mk (Option.some.inj H)
         clear H
         go_wp2_with (first | (go_at_call 12; (with_reducible refine (rubricklaw06_knows.calls kj11  t105 _ ?side1 A21.out).mono ?_); (case side1 => exact gw_step hG_ (by repeat (first | (with_reducible first | exact HB.out | apply below_alloc | apply pw_below_drewN | apply below_drew1) | exact HB.out))); rintro e w22 ⟨rfl, hb⟩; have n0_ := Aside0.mk (below_step (by repeat (first | (with_reducible first | exact HB.out | apply below_alloc | apply pw_below_drewN | apply below_drew1) | exact HB.out)) hb); clear HB; have HB := n0_; clear n0_; (try clear hb); (try clear hb2); (try clear hk); (try clear hi)))
         go_ret
         exact ⟨by first | rfl | (simp [errW_none, errW_some] <;> rfl) | exact congrArg (fun b_ : Bool => Ending.returned (Value.bool b_)) HT2_.out | (simp [*, errW_none, errW_some] <;> rfl), by repeat (first | (with_reducible first | exact HB.out | apply below_alloc | apply pw_below_drewN | apply below_drew1) | exact HB.out)⟩
        ·rw [if_neg c20] at H
         have c20b0 : (t104 == 1) = false := beq_eq_false_iff_ne.mpr c20
         have c20b1 : (t104 != 1) = true := bne_iff_ne.mpr c20
         cases H
       ·rw [if_neg c19] at H
        have c19b0 : (t103.toList == ([] : List UInt8)) = false := beq_eq_false_iff_ne.mpr c19
        have c19b1 : (t103.toList != ([] : List UInt8)) = true := bne_iff_ne.mpr c19
        cases H
      ·replace c18 := Bool.eq_false_iff.mpr c18
       subst c18
       have H1 : ((rubrickref06_Steps.f kj11 a1 a2).bind fun t106 => (if (l3.length : Int) = t106 then ((rubrickref06_Right.f kj11 l3).bind fun t107 => (rubricklaw06_TreeClimbs.j2 kj11 a0 a1 a2 l3 t103 t104 (!t107))) else (rubricklaw06_TreeClimbs.j2 kj11 a0 a1 a2 l3 t103 t104 true))) = some true := by rw [if_neg (show ¬ (false = true) by decide)] at H; exact H
       clear H
       have H := H1
       clear H1
       have HC23 := Aside0.mk H
       clear H
       go_upto_region 6 with (fail)
       go_cut [66] (fun v66 wc => ∃ (kq : Nat) (x66_22 : Bool), v66 = .bool x66_22 ∧ Aside0 (rubricklaw06_TreeClimbs.j2 kq a0 a1 a2 l3 t103 t104 x66_22 = some true) ∧ Aside0 (kq ≤ kj11) ∧ Aside0 (Below w.heap.size w wc))
       case first =>
        have H := HC23.out
        clear HC23
        replace H := Option.bind_eq_some_iff.mp H
        obtain ⟨t106, A240, H⟩ := H
        replace H : (if (l3.length : Int) = t106 then ((rubrickref06_Right.f kj11 l3).bind fun t107 => (rubricklaw06_TreeClimbs.j2 kj11 a0 a1 a2 l3 t103 t104 (!t107))) else (rubricklaw06_TreeClimbs.j2 kj11 a0 a1 a2 l3 t103 t104 true)) = some true := H
        have A24 := Aside0.mk A240
        clear A240
        by_cases c25 : (l3.length : Int) = t106
        ·rw [if_pos c25] at H
         have c25b0 : ((l3.length : Int) == t106) = true := beq_iff_eq.mpr c25
         have c25b1 : ((l3.length : Int) != t106) = false := bne_eq_false_iff_eq.mpr c25
         clear c25
         (first | rw [c25b0] | (simp only [i64_w, i32_w]; rw [c25b0]) | skip)
         replace H := Option.bind_eq_some_iff.mp H
         obtain ⟨t107, A260, H⟩ := H
         replace H : (rubricklaw06_TreeClimbs.j2 kj11 a0 a1 a2 l3 t103 t104 (!t107)) = some true := H
         have A26 := Aside0.mk A260
         clear A260
         have H' := Aside0.mk H
         clear H
         go_wp2_with (first | ((with_reducible refine gate_callee (f := 18) rfl ?_); refine goesL_ (some 60) rfl rfl Tryd.func18 (by kernel_rfl) rfl #[.int .i64 a1, .int .i64 a2] rfl (by (try simp only [List.map_toArray, List.map_cons, List.map_nil]); first | done | rfl | (simp only [List.length_drop, List.length_take]; rfl)) ?_; (with_reducible refine (rubrickref06_Steps.calls kj11 a1 a2 t106 _ A24.out).mono ?_); rintro e w' ⟨rfl, ⟨nd, rfl⟩⟩; refine ⟨_, rfl, ?_⟩) | (go_at_call 14; (with_reducible refine (rubrickref06_Right.calls kj11 _ _ l3 t107 _ ?side1 ?side2 A26.out).mono ?_); (case side1 => repeat (first | exact (Kd.C_below HR3.out (by repeat (first | (with_reducible first | exact HB.out | apply below_alloc | apply pw_below_drewN | apply below_drew1) | exact HB.out))) | (with_reducible refine Kd.C_alloc ?_ _) | (with_reducible refine Kd.C_drewN ?_ _) | (with_reducible refine Kd.C_drew ?_))); (case side2 => exact HC3.out); rintro e w' ⟨rfl, ⟨nd, rfl⟩⟩))
         go_meet
         case rel => exact ⟨_, (!t107), (by first | rfl | (simp; done) | (simp [*]; done)), H', ⟨by have := HJ4.out; have := HJ11.out; first | omega | exact Nat.le_refl _⟩, ⟨by repeat (first | (with_reducible first | exact HB.out | apply below_alloc | apply pw_below_drewN | apply below_drew1) | exact HB.out)⟩⟩
        ·rw [if_neg c25] at H
         have c25b0 : ((l3.length : Int) == t106) = false := beq_eq_false_iff_ne.mpr c25
         have c25b1 : ((l3.length : Int) != t106) = true := bne_iff_ne.mpr c25
         (first | rw [c25b0] | (simp only [i64_w, i32_w]; rw [c25b0]) | skip)
         have H' := Aside0.mk H
         clear H
         go_wp2_with (first | ((with_reducible refine gate_callee (f := 18) rfl ?_); refine goesL_ (some 60) rfl rfl Tryd.func18 (by kernel_rfl) rfl #[.int .i64 a1, .int .i64 a2] rfl (by (try simp only [List.map_toArray, List.map_cons, List.map_nil]); first | done | rfl | (simp only [List.length_drop, List.length_take]; rfl)) ?_; (with_reducible refine (rubrickref06_Steps.calls kj11 a1 a2 t106 _ A24.out).mono ?_); rintro e w' ⟨rfl, ⟨nd, rfl⟩⟩; refine ⟨_, rfl, ?_⟩))
         go_meet
         case rel => exact ⟨_, (true), (by first | rfl | (simp; done) | (simp [*]; done)), H', ⟨by have := HJ4.out; have := HJ11.out; first | omega | exact Nat.le_refl _⟩, ⟨by repeat (first | (with_reducible first | exact HB.out | apply below_alloc | apply pw_below_drewN | apply below_drew1) | exact HB.out)⟩⟩
       case rest =>
        clear HC23
        try clear c1
        try clear c2
        try clear p2
        try clear c3
        try clear c4
        try clear c7
        try clear c8
        try clear c11
        try clear c12
        try clear c14
        try clear c14b0
        try clear c14b1
        try clear c15
        try clear c15b0
        try clear c16
        try clear c16b0
        try clear c17
        try clear c17b0
        try clear c18
        try clear c19
        try clear c19b0
        try clear c19b1
        try clear c20
        try clear c20b0
        try clear c20b1
        try clear c25
        try clear c25b0
        try clear c25b1
        try clear p2
        obtain ⟨kq, x66_22, rfl, HA, HJ22, HB⟩ := hcut
        cases kq with
        | zero => exact absurd HA.out (by simp [rubricklaw06_TreeClimbs.j2])
        | succ kj22 =>
         have H := HA.out
         clear HA
         simp only [rubricklaw06_TreeClimbs.j2] at H
         by_cases c27 : x66_22 = true
         ·subst c27
          have H1 : (if t103.toList = ([] : List UInt8) then (if t104 = 6 then ((rubricklaw06_knows.f kj22).bind fun t108 => (some t108)) else (some false)) else (some false)) = some true := by rw [if_pos rfl] at H; exact H
          clear H
          have H := H1
          clear H1
          by_cases c28 : t103.toList = ([] : List UInt8)
          ·rw [if_pos c28] at H
           have c28b0 : (t103.toList == ([] : List UInt8)) = true := beq_iff_eq.mpr c28
           have c28b1 : (t103.toList != ([] : List UInt8)) = false := bne_eq_false_iff_eq.mpr c28
           clear c28
           by_cases c29 : t104 = 6
           ·rw [if_pos c29] at H
            have c29b0 : (t104 == 6) = true := beq_iff_eq.mpr c29
            have c29b1 : (t104 != 6) = false := bne_eq_false_iff_eq.mpr c29
            clear c29
            replace H := Option.bind_eq_some_iff.mp H
            obtain ⟨t108, A300, H⟩ := H
            replace H : (some t108) = some true := H
            have A30 := Aside0.mk A300
            clear A300
            have HT2_ := Aside0.mk (Option.some.inj H)
            clear H
            go_wp2_with (first | (go_at_call 12; (with_reducible refine (rubricklaw06_knows.calls kj22  t108 _ ?side1 A30.out).mono ?_); (case side1 => exact gw_step hG_ (by repeat (first | (with_reducible first | exact HB.out | apply below_alloc | apply pw_below_drewN | apply below_drew1) | exact HB.out))); rintro e w31 ⟨rfl, hb⟩; have n0_ := Aside0.mk (below_step (by repeat (first | (with_reducible first | exact HB.out | apply below_alloc | apply pw_below_drewN | apply below_drew1) | exact HB.out)) hb); clear HB; have HB := n0_; clear n0_; (try clear hb); (try clear hb2); (try clear hk); (try clear hi)))
            go_ret
            exact ⟨by first | rfl | (simp [errW_none, errW_some] <;> rfl) | exact congrArg (fun b_ : Bool => Ending.returned (Value.bool b_)) HT2_.out | (simp [*, errW_none, errW_some] <;> rfl), by repeat (first | (with_reducible first | exact HB.out | apply below_alloc | apply pw_below_drewN | apply below_drew1) | exact HB.out)⟩
           ·rw [if_neg c29] at H
            have c29b0 : (t104 == 6) = false := beq_eq_false_iff_ne.mpr c29
            have c29b1 : (t104 != 6) = true := bne_iff_ne.mpr c29
            cases H
          ·rw [if_neg c28] at H
           have c28b0 : (t103.toList == ([] : List UInt8)) = false := beq_eq_false_iff_ne.mpr c28
           have c28b1 : (t103.toList != ([] : List UInt8)) = true := bne_iff_ne.mpr c28
           cases H
         ·replace c27 := Bool.eq_false_iff.mpr c27
          subst c27
          have H1 : ((rubrickref06_Climb.f kj22 a0 a1 a2 l3).bind fun t109 => (if t103.toList = t109.toList then (if t104 = 0 then ((rubricklaw06_knows.f kj22).bind fun t110 => (some t110)) else (some false)) else (some false))) = some true := by rw [if_neg (show ¬ (false = true) by decide)] at H; exact H
          clear H
          have H := H1
          clear H1
          replace H := Option.bind_eq_some_iff.mp H
          obtain ⟨t109, A320, H⟩ := H
          replace H : (if t103.toList = t109.toList then (if t104 = 0 then ((rubricklaw06_knows.f kj22).bind fun t110 => (some t110)) else (some false)) else (some false)) = some true := H
          have A32 := Aside0.mk A320
          clear A320
          by_cases c33 : t103.toList = t109.toList
          ·rw [if_pos c33] at H
           have c33b0 : (t103.toList == t109.toList) = true := beq_iff_eq.mpr c33
           have c33b1 : (t103.toList != t109.toList) = false := bne_eq_false_iff_eq.mpr c33
           clear c33
           by_cases c34 : t104 = 0
           ·rw [if_pos c34] at H
            have c34b0 : (t104 == 0) = true := beq_iff_eq.mpr c34
            have c34b1 : (t104 != 0) = false := bne_eq_false_iff_eq.mpr c34
            clear c34
            replace H := Option.bind_eq_some_iff.mp H
            obtain ⟨t110, A350, H⟩ := H
            replace H : (some t110) = some true := H
            have A35 := Aside0.mk A350
            clear A350
            have HT2_ := Aside0.mk (Option.some.inj H)
            clear H
            go_wp2_with (first | ((with_reducible refine gate_callee (f := 19) rfl ?_); refine goesL_ (some 81) rfl rfl Tryd.func19 (by kernel_rfl) rfl #[.string a0, .int .i64 a1, .int .i64 a2, .slice A3 l3.length c3] rfl (by (try simp only [List.map_toArray, List.map_cons, List.map_nil]); first | done | rfl | (simp only [List.length_drop, List.length_take]; rfl)) ?_; (with_reducible refine (rubrickref06_Climb.calls kj22 a0 a1 a2 _ _ l3 t109 _ ?side1 ?side2 A32.out).mono ?_); (case side1 => repeat (first | exact (Kd.C_below HR3.out HB.out) | (with_reducible refine Kd.C_alloc ?_ _) | (with_reducible refine Kd.C_drewN ?_ _) | (with_reducible refine Kd.C_drew ?_))); (case side2 => exact HC3.out); rintro e w36 ⟨rfl, hb⟩; refine ⟨_, rfl, ?_⟩; have n0_ := Aside0.mk (below_step (by repeat (first | (with_reducible first | exact HB.out | apply below_alloc | apply pw_below_drewN | apply below_drew1) | exact HB.out)) hb); clear HB; have HB := n0_; clear n0_; (try clear hb); (try clear hb2); (try clear hk); (try clear hi)) | (go_at_call 12; (with_reducible refine (rubricklaw06_knows.calls kj22  t110 _ ?side1 A35.out).mono ?_); (case side1 => exact gw_step hG_ (by repeat (first | (with_reducible first | exact HB.out | apply below_alloc | apply pw_below_drewN | apply below_drew1) | exact HB.out))); rintro e w37 ⟨rfl, hb⟩; have n0_ := Aside0.mk (below_step (by repeat (first | (with_reducible first | exact HB.out | apply below_alloc | apply pw_below_drewN | apply below_drew1) | exact HB.out)) hb); clear HB; have HB := n0_; clear n0_; (try clear hb); (try clear hb2); (try clear hk); (try clear hi)))
            go_ret
            exact ⟨by first | rfl | (simp [errW_none, errW_some] <;> rfl) | exact congrArg (fun b_ : Bool => Ending.returned (Value.bool b_)) HT2_.out | (simp [*, errW_none, errW_some] <;> rfl), by repeat (first | (with_reducible first | exact HB.out | apply below_alloc | apply pw_below_drewN | apply below_drew1) | exact HB.out)⟩
           ·rw [if_neg c34] at H
            have c34b0 : (t104 == 0) = false := beq_eq_false_iff_ne.mpr c34
            have c34b1 : (t104 != 0) = true := bne_iff_ne.mpr c34
            cases H
          ·rw [if_neg c33] at H
           have c33b0 : (t103.toList == t109.toList) = false := beq_eq_false_iff_ne.mpr c33
           have c33b1 : (t103.toList != t109.toList) = true := bne_iff_ne.mpr c33
           cases H
end Go.Proofs.YtgcfhgkhokljcaaDoor.PTreeClimbs

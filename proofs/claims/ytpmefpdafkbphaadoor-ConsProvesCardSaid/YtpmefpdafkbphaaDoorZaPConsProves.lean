import Derived.Test.YtpmefpdafkbphaaDoorProg
import Derived.Below
import Derived.Deep.Draws
import Derived.Deep.AppendLies
import Derived.Maps.AppendAt
import Derived.OwnWalk
import Derived.Laws.BytesArg
import Derived.Laws.MakeOwn
import Derived.Laws.OwnMore
import Derived.Deep.OwnRows
import Derived.Tactics
import Derived.Lib.ConvBytes
import Derived.Laws.Slices
import Derived.WalkKit
import Derived.KernelRfl
import Derived.RowKit3
import Derived.Deep.LoopGhost
import Derived.Deep.QuietTactic
import Derived.BigQuiet
import Derived.WideLaws
import Derived.Deep.DeepCutAuto
import Derived.Deep.CutBlock
import Derived.Deep.RegionHeld3
import Derived.Laws.Rows
import Derived.Lib.AppendStr
import Derived.ArgAppend
import Derived.Laws.IdiomCopy
import Derived.OrdersHeld
import Derived.Laws.BitsLemmas
import Derived.RowKit
import Derived.WalkMore
import Derived.Test.YtpmefpdafkbphaaDoorZaHShaD
import Derived.Test.YtpmefpdafkbphaaDoorZaPS
import Derived.Test.YtpmefpdafkbphaaDoorZaPR
import Derived.Test.YtpmefpdafkbphaaDoorZaPT
import Derived.Test.YtpmefpdafkbphaaDoorZaPB
import Derived.Test.YtpmefpdafkbphaaDoorZaHNode
import Derived.Test.YtpmefpdafkbphaaDoorZaPC
import Derived.Test.YtpmefpdafkbphaaDoorZaPP
import Derived.Test.YtpmefpdafkbphaaDoorZaHProve
import Derived.Test.YtpmefpdafkbphaaDoorZaHCheck
import Derived.Test.YtpmefpdafkbphaaDoorZaPK
import Derived.Test.YtpmefpdafkbphaaDoorZaWWords
import Derived.Test.YtpmefpdafkbphaaDoorZaWLast
import Derived.Test.YtpmefpdafkbphaaDoorZaWTab
import Derived.Test.YtpmefpdafkbphaaDoorZaWApart
import Derived.Test.YtpmefpdafkbphaaDoorZaWFoot
import Derived.Test.YtpmefpdafkbphaaDoorZaWKept
import Derived.Test.YtpmefpdafkbphaaDoorZaWShare
import Derived.Test.YtpmefpdafkbphaaDoorZaWN
import Derived.Laws.StructEq
import Derived.Test.YtpmefpdafkbphaaDoorZaWRepsOne
import Derived.Test.YtpmefpdafkbphaaDoorZaWInv
import Derived.Test.YtpmefpdafkbphaaDoorZaWGuard
import Derived.Test.YtpmefpdafkbphaaDoorZaWNEv
import Derived.Test.YtpmefpdafkbphaaDoorZaWMore
-- PRINTED by print.py (a twelfth state) out of the translation. Not trusted: Lean checks it.
namespace Go.Proofs.YtpmefpdafkbphaaDoor.PConsProves
open Go.RowKit  Go.Proofs.YtpmefpdafkbphaaDoor.HSha Go.Proofs.YtpmefpdafkbphaaDoor.PS Go.Proofs.YtpmefpdafkbphaaDoor.PR Go.Proofs.YtpmefpdafkbphaaDoor.PT Go.Proofs.YtpmefpdafkbphaaDoor.PB Go.Proofs.YtpmefpdafkbphaaDoor.HNode Go.Proofs.YtpmefpdafkbphaaDoor.PC Go.Proofs.YtpmefpdafkbphaaDoor.PP Go.Proofs.YtpmefpdafkbphaaDoor.HProve Go.Proofs.YtpmefpdafkbphaaDoor.HCheck Go.Proofs.YtpmefpdafkbphaaDoor.PK Go.Proofs.YtpmefpdafkbphaaDoorW.PrintWords Go.Proofs.YtpmefpdafkbphaaDoorW.PrintLast Go.Proofs.YtpmefpdafkbphaaDoorW.PrintMore
attribute [local go_sem] max2_int min2_int max_two min_two max_three min_three max_four min_four   -- for this text's walks alone
set_option linter.unusedVariables false
set_option linter.unusedSimpArgs false
def errW : Option Int → Value
 | none => .nilIface
 | some c => .iface 0 (.int .i64 c)
theorem errW_none : errW none = .nilIface := rfl
theorem errW_some (c : Int) : errW (some c) = .iface 0 (.int .i64 c) := rfl
-- the values' own types
end Go.Proofs.YtpmefpdafkbphaaDoor.PConsProves
namespace Go.Proofs.YtpmefpdafkbphaaDoor.PConsProves
open Go.RowKit  Go.Proofs.YtpmefpdafkbphaaDoor.HSha Go.Proofs.YtpmefpdafkbphaaDoor.PS Go.Proofs.YtpmefpdafkbphaaDoor.PR Go.Proofs.YtpmefpdafkbphaaDoor.PT Go.Proofs.YtpmefpdafkbphaaDoor.PB Go.Proofs.YtpmefpdafkbphaaDoor.HNode Go.Proofs.YtpmefpdafkbphaaDoor.PC Go.Proofs.YtpmefpdafkbphaaDoor.PP Go.Proofs.YtpmefpdafkbphaaDoor.HProve Go.Proofs.YtpmefpdafkbphaaDoor.HCheck Go.Proofs.YtpmefpdafkbphaaDoor.PK Go.Proofs.YtpmefpdafkbphaaDoorW.PrintWords Go.Proofs.YtpmefpdafkbphaaDoorW.PrintLast Go.Proofs.YtpmefpdafkbphaaDoorW.PrintMore
attribute [local go_sem] max2_int min2_int max_two min_two max_three min_three max_four min_four   -- for this text's walks alone
set_option linter.unusedVariables false
set_option linter.unusedSimpArgs false
/-! ### rubricklaw07_ConsProves: function 3 -/
def rubricklaw07_ConsProves.j0 : Nat → List ByteArray → Int → List ByteArray → Int → Bool → Option (Bool)
 | 0, _, _, _, _, _ => none
 | k + 1, x0, x1, x5, x6, x28 => if x28 = true then (if (x5.length : Int) = 0 then (if x6 = 1 then ((rubricklaw07_knows.f k).bind fun t108 => (some t108)) else (some false)) else (some false)) else ((rubrickref07_Prove.f k x0 x1).bind fun t109 => ((rubrickref02_Same.f k x5 t109).bind fun t112 => (if t112 = true then (if x6 = 0 then ((rubricklaw07_knows.f k).bind fun t113 => (some t113)) else (some false)) else (some false))))
def rubricklaw07_ConsProves.f (k : Nat) (l0 : List ByteArray) (a1 : Int) : Option (Bool) := (rubricklaw06_Great.f k l0).bind fun t101 => (if t101 = true then ((rubricklaw07_knows.f k).bind fun t102 => (some t102)) else ((cons_Prove.f k l0 a1).bind fun bt103 => ((rubrickref06_Right.f k l0).bind fun t107 => (if t107 = true then (if a1 < 0 then (rubricklaw07_ConsProves.j0 k l0 a1 bt103.1 bt103.2 true) else (rubricklaw07_ConsProves.j0 k l0 a1 bt103.1 bt103.2 (decide (a1 > (l0.length : Int))))) else (rubricklaw07_ConsProves.j0 k l0 a1 bt103.1 bt103.2 true)))))
set_option maxHeartbeats 8000000 in
set_option maxRecDepth 100000 in
theorem rubricklaw07_ConsProves.calls (k : Nat) (A0 : Option Addr) (c0 : Nat) (l0 : List ByteArray) (a1 : Int) (r : Bool) (w : World) (hG_ : Aside0 (GW w)) (hr0 : Kd.C Kd.string w A0 l0.length l0) (hc0 : l0.length ≤ c0) (h : rubricklaw07_ConsProves.f k l0 a1 = some r) (hT_ : r = true) :
  Calls Tryd.prog 3 #[.slice A0 l0.length c0, .int .i64 a1] w fun e w' => e = .returned (.bool r) ∧ Below w.heap.size w w' := by
 have HR0 := Aside0.mk hr0
 have HC0 := Aside0.mk hc0
 clear hr0 hc0
 have HB := Aside0.mk (Below.refl w.heap.size w)
 subst hT_
 have H : ((rubricklaw06_Great.f k l0).bind fun t101 => (if t101 = true then ((rubricklaw07_knows.f k).bind fun t102 => (some t102)) else ((cons_Prove.f k l0 a1).bind fun bt103 => ((rubrickref06_Right.f k l0).bind fun t107 => (if t107 = true then (if a1 < 0 then (rubricklaw07_ConsProves.j0 k l0 a1 bt103.1 bt103.2 true) else (rubricklaw07_ConsProves.j0 k l0 a1 bt103.1 bt103.2 (decide (a1 > (l0.length : Int))))) else (rubricklaw07_ConsProves.j0 k l0 a1 bt103.1 bt103.2 true)))))) = some true := h
 clear h
 replace H := Option.bind_eq_some_iff.mp H
 obtain ⟨t101, A30, H⟩ := H
 replace H : (if t101 = true then ((rubricklaw07_knows.f k).bind fun t102 => (some t102)) else ((cons_Prove.f k l0 a1).bind fun bt103 => ((rubrickref06_Right.f k l0).bind fun t107 => (if t107 = true then (if a1 < 0 then (rubricklaw07_ConsProves.j0 k l0 a1 bt103.1 bt103.2 true) else (rubricklaw07_ConsProves.j0 k l0 a1 bt103.1 bt103.2 (decide (a1 > (l0.length : Int))))) else (rubricklaw07_ConsProves.j0 k l0 a1 bt103.1 bt103.2 true))))) = some true := H
 have A3 := Aside0.mk A30
 clear A30
 by_cases c4 : t101 = true
 ·subst c4
  have H1 : ((rubricklaw07_knows.f k).bind fun t102 => (some t102)) = some true := by rw [if_pos rfl] at H; exact H
  clear H
  have H := H1
  clear H1
  replace H := Option.bind_eq_some_iff.mp H
  obtain ⟨t102, A50, H⟩ := H
  replace H : (some t102) = some true := H
  have A5 := Aside0.mk A50
  clear A50
  have HT2_ := Aside0.mk (Option.some.inj H)
  clear H
  go_enter Tryd.func3, Tryd.ntmps3
  go_wp2_with (first | ((with_reducible refine gate_callee (f := 14) rfl ?_); refine goesL_ (some 8) rfl rfl Tryd.func14 (by kernel_rfl) rfl #[.slice A0 l0.length c0] rfl (by (try simp only [List.map_toArray, List.map_cons, List.map_nil]); first | done | rfl | (simp only [List.length_drop, List.length_take]; rfl)) ?_; (with_reducible refine (rubricklaw06_Great.calls k _ _ l0 true _ ?side1 ?side2 A3.out).mono ?_); (case side1 => repeat (first | exact HR0.out | (with_reducible refine Kd.C_alloc ?_ _) | (with_reducible refine Kd.C_drewN ?_ _) | (with_reducible refine Kd.C_drew ?_))); (case side2 => exact HC0.out); rintro e w' ⟨rfl, ⟨nd, rfl⟩⟩; refine ⟨_, rfl, ?_⟩) | ((with_reducible refine gate_callee (f := 15) rfl ?_); refine goesL_ (some 9) rfl rfl Tryd.func15 (by kernel_rfl) rfl #[] rfl (by (try simp only [List.map_toArray, List.map_cons, List.map_nil]); first | done | rfl | (simp only [List.length_drop, List.length_take]; rfl)) ?_; (with_reducible refine (rubricklaw07_knows.calls k  t102 _ ?side1 A5.out).mono ?_); (case side1 => exact gw_step hG_ (by repeat (first | (with_reducible first | exact HB.out | apply below_alloc | apply pw_below_drewN | apply below_drew1) | exact HB.out))); rintro e w6 ⟨rfl, hb⟩; refine ⟨_, rfl, ?_⟩; have n0_ := Aside0.mk (below_step (by repeat (first | (with_reducible first | exact HB.out | apply below_alloc | apply pw_below_drewN | apply below_drew1) | exact HB.out)) hb); clear HB; have HB := n0_; clear n0_; (try clear hb); (try clear hb2); (try clear hk); (try clear hi)))
  go_ret
  exact ⟨by first | rfl | (simp [errW_none, errW_some] <;> rfl) | exact congrArg (fun b_ : Bool => Ending.returned (Value.bool b_)) HT2_.out | (simp [*, errW_none, errW_some] <;> rfl), by repeat (first | (with_reducible first | exact HB.out | apply below_alloc | apply pw_below_drewN | apply below_drew1) | exact HB.out)⟩
 ·replace c4 := Bool.eq_false_iff.mpr c4
  subst c4
  have H1 : ((cons_Prove.f k l0 a1).bind fun bt103 => ((rubrickref06_Right.f k l0).bind fun t107 => (if t107 = true then (if a1 < 0 then (rubricklaw07_ConsProves.j0 k l0 a1 bt103.1 bt103.2 true) else (rubricklaw07_ConsProves.j0 k l0 a1 bt103.1 bt103.2 (decide (a1 > (l0.length : Int))))) else (rubricklaw07_ConsProves.j0 k l0 a1 bt103.1 bt103.2 true)))) = some true := by rw [if_neg (show ¬ (false = true) by decide)] at H; exact H
  clear H
  have H := H1
  clear H1
  replace H := Option.bind_eq_some_iff.mp H
  obtain ⟨⟨t103, t104⟩, A70, H⟩ := H
  replace H : ((rubrickref06_Right.f k l0).bind fun t107 => (if t107 = true then (if a1 < 0 then (rubricklaw07_ConsProves.j0 k l0 a1 t103 t104 true) else (rubricklaw07_ConsProves.j0 k l0 a1 t103 t104 (decide (a1 > (l0.length : Int))))) else (rubricklaw07_ConsProves.j0 k l0 a1 t103 t104 true))) = some true := H
  have A7 := Aside0.mk A70
  clear A70
  have HC8 := Aside0.mk H
  clear H
  go_enter Tryd.func3, Tryd.ntmps3
  go_upto_region 4 with (first | ((with_reducible refine gate_callee (f := 14) rfl ?_); refine goesL_ (some 8) rfl rfl Tryd.func14 (by kernel_rfl) rfl #[.slice A0 l0.length c0] rfl (by (try simp only [List.map_toArray, List.map_cons, List.map_nil]); first | done | rfl | (simp only [List.length_drop, List.length_take]; rfl)) ?_; (with_reducible refine (rubricklaw06_Great.calls k _ _ l0 false _ ?side1 ?side2 A3.out).mono ?_); (case side1 => repeat (first | exact HR0.out | (with_reducible refine Kd.C_alloc ?_ _) | (with_reducible refine Kd.C_drewN ?_ _) | (with_reducible refine Kd.C_drew ?_))); (case side2 => exact HC0.out); rintro e w' ⟨rfl, ⟨nd, rfl⟩⟩; refine ⟨_, rfl, ?_⟩) | ((with_reducible refine gate_callee (f := 16) rfl ?_); refine goesL_ (some 13) rfl rfl Tryd.func16 (by kernel_rfl) rfl #[.slice A0 l0.length c0, .int .i64 a1] rfl (by (try simp only [List.map_toArray, List.map_cons, List.map_nil]); first | done | rfl | (simp only [List.length_drop, List.length_take]; rfl)) ?_; (with_reducible refine (cons_Prove.calls k _ _ l0 a1 t103 t104 _ ?side3 ?side1 ?side2 A7.out).mono ?_); (case side1 => repeat (first | exact HR0.out | (with_reducible refine Kd.C_alloc ?_ _) | (with_reducible refine Kd.C_drewN ?_ _) | (with_reducible refine Kd.C_drew ?_))); (case side2 => exact HC0.out); (case side3 => exact gw_step hG_ (by repeat (first | (with_reducible first | exact HB.out | apply below_alloc | apply pw_below_drewN | apply below_drew1) | exact HB.out))); rintro e w9 ⟨v105, rfl, ho0, hb⟩; refine ⟨_, rfl, ?_⟩; have n0_ := Aside0.mk (Kd.R_lower ho0 (below_size (by repeat (first | (with_reducible first | exact HB.out | apply below_alloc | apply pw_below_drewN | apply below_drew1) | exact HB.out)))); have n1_ := Aside0.mk (below_step (by repeat (first | (with_reducible first | exact HB.out | apply below_alloc | apply pw_below_drewN | apply below_drew1) | exact HB.out)) hb); clear HB; have HO106 := n0_; have HB := n1_; clear n0_ n1_; (try clear hb); (try clear hb2); (try clear hk); (try clear hi); (try clear ho0)))
  (try simp only [Act.put, List.setIfInBounds_toArray, List.set_cons_zero, List.set_cons_succ])
  go_cut [28] (fun v28 wc => ∃ (kq : Nat) (x28_7 : Bool), v28 = .bool x28_7 ∧ Aside0 (rubricklaw07_ConsProves.j0 kq l0 a1 t103 t104 x28_7 = some true) ∧ Aside0 (kq ≤ k) ∧ Aside0 (Kd.R Kd.string 9 wc w.heap.size (fun _ => True) v105 t103) ∧ Aside0 (Below w.heap.size w wc))
  case first =>
   have H := HC8.out
   clear HC8
   replace H := Option.bind_eq_some_iff.mp H
   obtain ⟨t107, A100, H⟩ := H
   replace H : (if t107 = true then (if a1 < 0 then (rubricklaw07_ConsProves.j0 k l0 a1 t103 t104 true) else (rubricklaw07_ConsProves.j0 k l0 a1 t103 t104 (decide (a1 > (l0.length : Int))))) else (rubricklaw07_ConsProves.j0 k l0 a1 t103 t104 true)) = some true := H
   have A10 := Aside0.mk A100
   clear A100
   by_cases c11 : t107 = true
   ·subst c11
    have H1 : (if a1 < 0 then (rubricklaw07_ConsProves.j0 k l0 a1 t103 t104 true) else (rubricklaw07_ConsProves.j0 k l0 a1 t103 t104 (decide (a1 > (l0.length : Int))))) = some true := by rw [if_pos rfl] at H; exact H
    clear H
    have H := H1
    clear H1
    by_cases c12 : a1 < 0
    ·rw [if_pos c12] at H
     have c12b0 : decide (a1 < 0) = true := decide_eq_true c12
     clear c12
     (first | rw [c12b0] | (simp only [i64_w, i32_w]; rw [c12b0]) | skip)
     have H' := Aside0.mk H
     clear H
     go_wp2_with (first | ((with_reducible refine gate_callee (f := 17) rfl ?_); refine goesL_ (some 17) rfl rfl Tryd.func17 (by kernel_rfl) rfl #[.slice A0 l0.length c0] rfl (by (try simp only [List.map_toArray, List.map_cons, List.map_nil]); first | done | rfl | (simp only [List.length_drop, List.length_take]; rfl)) ?_; (with_reducible refine (rubrickref06_Right.calls k _ _ l0 true _ ?side1 ?side2 A10.out).mono ?_); (case side1 => repeat (first | exact (Kd.C_below HR0.out HB.out) | (with_reducible refine Kd.C_alloc ?_ _) | (with_reducible refine Kd.C_drewN ?_ _) | (with_reducible refine Kd.C_drew ?_))); (case side2 => exact HC0.out); rintro e w' ⟨rfl, ⟨nd, rfl⟩⟩; refine ⟨_, rfl, ?_⟩))
     go_meet
     case rel => exact ⟨_, (true), (by first | rfl | (simp; done) | (simp [*]; done)), H', ⟨by first | omega | exact Nat.le_refl _⟩, ⟨by (with_reducible repeat (first | apply Kd.R_alloc | apply Kd.R_drewN | apply Kd.R_drew)); exact HO106.out⟩, ⟨by repeat (first | (with_reducible first | exact HB.out | apply below_alloc | apply pw_below_drewN | apply below_drew1) | exact HB.out)⟩⟩
    ·rw [if_neg c12] at H
     have c12b0 : decide (a1 < 0) = false := decide_eq_false c12
     clear c12
     (first | rw [c12b0] | (simp only [i64_w, i32_w]; rw [c12b0]) | skip)
     have H' := Aside0.mk H
     clear H
     go_wp2_with (first | ((with_reducible refine gate_callee (f := 17) rfl ?_); refine goesL_ (some 17) rfl rfl Tryd.func17 (by kernel_rfl) rfl #[.slice A0 l0.length c0] rfl (by (try simp only [List.map_toArray, List.map_cons, List.map_nil]); first | done | rfl | (simp only [List.length_drop, List.length_take]; rfl)) ?_; (with_reducible refine (rubrickref06_Right.calls k _ _ l0 true _ ?side1 ?side2 A10.out).mono ?_); (case side1 => repeat (first | exact (Kd.C_below HR0.out HB.out) | (with_reducible refine Kd.C_alloc ?_ _) | (with_reducible refine Kd.C_drewN ?_ _) | (with_reducible refine Kd.C_drew ?_))); (case side2 => exact HC0.out); rintro e w' ⟨rfl, ⟨nd, rfl⟩⟩; refine ⟨_, rfl, ?_⟩))
     go_meet
     case rel => exact ⟨_, (decide (a1 > (l0.length : Int))), (by first | rfl | (simp; done) | (simp [*]; done)), H', ⟨by first | omega | exact Nat.le_refl _⟩, ⟨by (with_reducible repeat (first | apply Kd.R_alloc | apply Kd.R_drewN | apply Kd.R_drew)); exact HO106.out⟩, ⟨by repeat (first | (with_reducible first | exact HB.out | apply below_alloc | apply pw_below_drewN | apply below_drew1) | exact HB.out)⟩⟩
   ·replace c11 := Bool.eq_false_iff.mpr c11
    subst c11
    have H1 : (rubricklaw07_ConsProves.j0 k l0 a1 t103 t104 true) = some true := by rw [if_neg (show ¬ (false = true) by decide)] at H; exact H
    clear H
    have H := H1
    clear H1
    have H' := Aside0.mk H
    clear H
    go_wp2_with (first | ((with_reducible refine gate_callee (f := 17) rfl ?_); refine goesL_ (some 17) rfl rfl Tryd.func17 (by kernel_rfl) rfl #[.slice A0 l0.length c0] rfl (by (try simp only [List.map_toArray, List.map_cons, List.map_nil]); first | done | rfl | (simp only [List.length_drop, List.length_take]; rfl)) ?_; (with_reducible refine (rubrickref06_Right.calls k _ _ l0 false _ ?side1 ?side2 A10.out).mono ?_); (case side1 => repeat (first | exact (Kd.C_below HR0.out HB.out) | (with_reducible refine Kd.C_alloc ?_ _) | (with_reducible refine Kd.C_drewN ?_ _) | (with_reducible refine Kd.C_drew ?_))); (case side2 => exact HC0.out); rintro e w' ⟨rfl, ⟨nd, rfl⟩⟩; refine ⟨_, rfl, ?_⟩))
    go_meet
    case rel => exact ⟨_, (true), (by first | rfl | (simp; done) | (simp [*]; done)), H', ⟨by first | omega | exact Nat.le_refl _⟩, ⟨by (with_reducible repeat (first | apply Kd.R_alloc | apply Kd.R_drewN | apply Kd.R_drew)); exact HO106.out⟩, ⟨by repeat (first | (with_reducible first | exact HB.out | apply below_alloc | apply pw_below_drewN | apply below_drew1) | exact HB.out)⟩⟩
  case rest =>
   clear HC8
   try clear c1
   try clear p2
   try clear c3
   try clear c4
   try clear c11
   try clear c12
   try clear c12b0
   obtain ⟨kq, x28_7, rfl, HA, HJ7, HO_5, HB⟩ := hcut
   cases kq with
   | zero => exact absurd HA.out (by simp [rubricklaw07_ConsProves.j0])
   | succ kj7 =>
    have H := HA.out
    clear HA
    simp only [rubricklaw07_ConsProves.j0] at H
    by_cases c13 : x28_7 = true
    ·subst c13
     have H1 : (if (t103.length : Int) = 0 then (if t104 = 1 then ((rubricklaw07_knows.f kj7).bind fun t108 => (some t108)) else (some false)) else (some false)) = some true := by rw [if_pos rfl] at H; exact H
     clear H
     have H := H1
     clear H1
     by_cases c14 : (t103.length : Int) = 0
     ·rw [if_pos c14] at H
      have c14b0 : ((t103.length : Int) == 0) = true := beq_iff_eq.mpr c14
      have c14b1 : ((t103.length : Int) != 0) = false := bne_eq_false_iff_eq.mpr c14
      clear c14
      by_cases c15 : t104 = 1
      ·rw [if_pos c15] at H
       have c15b0 : (t104 == 1) = true := beq_iff_eq.mpr c15
       have c15b1 : (t104 != 1) = false := bne_eq_false_iff_eq.mpr c15
       clear c15
       replace H := Option.bind_eq_some_iff.mp H
       obtain ⟨t108, A160, H⟩ := H
       replace H : (some t108) = some true := H
       have A16 := Aside0.mk A160
       clear A160
       have HT2_ := Aside0.mk (Option.some.inj H)
       clear H
       obtain ⟨Ao17, co17, eo17⟩ := Kd.R_slice HO_5.out
       subst eo17
       go_wp2_with (first | (go_at_call 15; (with_reducible refine (rubricklaw07_knows.calls kj7  t108 _ ?side1 A16.out).mono ?_); (case side1 => exact gw_step hG_ (by repeat (first | (with_reducible first | exact HB.out | apply below_alloc | apply pw_below_drewN | apply below_drew1) | exact HB.out))); rintro e w18 ⟨rfl, hb⟩; have n0_ := Aside0.mk (Kd.R_below (by (with_reducible repeat (first | apply Kd.R_alloc | apply Kd.R_drewN | apply Kd.R_drew)); exact HO_5.out) hb); have n1_ := Aside0.mk (below_step (by repeat (first | (with_reducible first | exact HB.out | apply below_alloc | apply pw_below_drewN | apply below_drew1) | exact HB.out)) hb); clear HO_5; clear HB; have HO_5 := n0_; have HB := n1_; clear n0_ n1_; (try clear hb); (try clear hb2); (try clear hk); (try clear hi)))
       go_ret
       exact ⟨by first | rfl | (simp [errW_none, errW_some] <;> rfl) | exact congrArg (fun b_ : Bool => Ending.returned (Value.bool b_)) HT2_.out | (simp [*, errW_none, errW_some] <;> rfl), by repeat (first | (with_reducible first | exact HB.out | apply below_alloc | apply pw_below_drewN | apply below_drew1) | exact HB.out)⟩
      ·rw [if_neg c15] at H
       have c15b0 : (t104 == 1) = false := beq_eq_false_iff_ne.mpr c15
       have c15b1 : (t104 != 1) = true := bne_iff_ne.mpr c15
       cases H
     ·rw [if_neg c14] at H
      have c14b0 : ((t103.length : Int) == 0) = false := beq_eq_false_iff_ne.mpr c14
      have c14b1 : ((t103.length : Int) != 0) = true := bne_iff_ne.mpr c14
      have c14b2 : ¬ (t103 = []) := fun h_ => c14 (by rw [h_]; rfl)
      cases H
    ·replace c13 := Bool.eq_false_iff.mpr c13
     subst c13
     have H1 : ((rubrickref07_Prove.f kj7 l0 a1).bind fun t109 => ((rubrickref02_Same.f kj7 t103 t109).bind fun t112 => (if t112 = true then (if t104 = 0 then ((rubricklaw07_knows.f kj7).bind fun t113 => (some t113)) else (some false)) else (some false)))) = some true := by rw [if_neg (show ¬ (false = true) by decide)] at H; exact H
     clear H
     have H := H1
     clear H1
     replace H := Option.bind_eq_some_iff.mp H
     obtain ⟨t109, A190, H⟩ := H
     replace H : ((rubrickref02_Same.f kj7 t103 t109).bind fun t112 => (if t112 = true then (if t104 = 0 then ((rubricklaw07_knows.f kj7).bind fun t113 => (some t113)) else (some false)) else (some false))) = some true := H
     have A19 := Aside0.mk A190
     clear A190
     replace H := Option.bind_eq_some_iff.mp H
     obtain ⟨t112, A200, H⟩ := H
     replace H : (if t112 = true then (if t104 = 0 then ((rubricklaw07_knows.f kj7).bind fun t113 => (some t113)) else (some false)) else (some false)) = some true := H
     have A20 := Aside0.mk A200
     clear A200
     by_cases c21 : t112 = true
     ·subst c21
      have H1 : (if t104 = 0 then ((rubricklaw07_knows.f kj7).bind fun t113 => (some t113)) else (some false)) = some true := by rw [if_pos rfl] at H; exact H
      clear H
      have H := H1
      clear H1
      by_cases c22 : t104 = 0
      ·rw [if_pos c22] at H
       have c22b0 : (t104 == 0) = true := beq_iff_eq.mpr c22
       have c22b1 : (t104 != 0) = false := bne_eq_false_iff_eq.mpr c22
       clear c22
       replace H := Option.bind_eq_some_iff.mp H
       obtain ⟨t113, A230, H⟩ := H
       replace H : (some t113) = some true := H
       have A23 := Aside0.mk A230
       clear A230
       have HT2_ := Aside0.mk (Option.some.inj H)
       clear H
       go_wp2_with (first | ((with_reducible refine gate_callee (f := 19) rfl ?_); refine goesL_ (some 42) rfl rfl Tryd.func19 (by kernel_rfl) rfl #[.slice A0 l0.length c0, .int .i64 a1] rfl (by (try simp only [List.map_toArray, List.map_cons, List.map_nil]); first | done | rfl | (simp only [List.length_drop, List.length_take]; rfl)) ?_; (with_reducible refine (rubrickref07_Prove.calls kj7 _ _ l0 a1 t109 _ ?side1 ?side2 A19.out).mono ?_); (case side1 => repeat (first | exact (Kd.C_below HR0.out HB.out) | (with_reducible refine Kd.C_alloc ?_ _) | (with_reducible refine Kd.C_drewN ?_ _) | (with_reducible refine Kd.C_drew ?_))); (case side2 => exact HC0.out); rintro e w24 ⟨v110, rfl, ho0, hb⟩; refine ⟨_, rfl, ?_⟩; have n0_ := Aside0.mk (Kd.R_elder' (by (with_reducible repeat (first | apply Kd.R_alloc | apply Kd.R_drewN | apply Kd.R_drew)); exact HO_5.out) (Kd.R_base ho0) hb); have n1_ := Aside0.mk (Kd.R_lower (Kd.R_new' ho0 (Kd.R_lt (by (with_reducible repeat (first | apply Kd.R_alloc | apply Kd.R_drewN | apply Kd.R_drew)); exact HO_5.out))) (below_size (by repeat (first | (with_reducible first | exact HB.out | apply below_alloc | apply pw_below_drewN | apply below_drew1) | exact HB.out)))); have n2_ := Aside0.mk (below_step (by repeat (first | (with_reducible first | exact HB.out | apply below_alloc | apply pw_below_drewN | apply below_drew1) | exact HB.out)) hb); clear HO_5; clear HB; have HO_5 := n0_; have HO111 := n1_; have HB := n2_; clear n0_ n1_ n2_; (try clear hb); (try clear hb2); (try clear hk); (try clear hi); (try clear ho0); obtain ⟨Ao25, co25, eo25⟩ := Kd.R_slice HO_5.out; subst eo25; obtain ⟨Ao26, co26, eo26⟩ := Kd.R_slice HO111.out; subst eo26) | ((with_reducible refine gate_callee (f := 18) rfl ?_); refine goesL_ (some 43) rfl rfl Tryd.func18 (by kernel_rfl) rfl #[.slice Ao25 t103.length co25, .slice Ao26 t109.length co26] rfl (by (try simp only [List.map_toArray, List.map_cons, List.map_nil]); first | done | rfl | (simp only [List.length_drop, List.length_take]; rfl)) ?_; (with_reducible refine (rubrickref02_Same.calls kj7 _ _ t103 _ _ t109 true _ ?side1 ?side2 ?side3 ?side4 A20.out).mono ?_); (case side1 => repeat (first | exact (Kd.R_reads' HO_5.out).2.2 | (with_reducible refine Kd.C_alloc ?_ _) | (with_reducible refine Kd.C_drewN ?_ _) | (with_reducible refine Kd.C_drew ?_))); (case side2 => exact (Kd.R_reads' HO_5.out).2.1); (case side3 => repeat (first | exact (Kd.R_reads' HO111.out).2.2 | (with_reducible refine Kd.C_alloc ?_ _) | (with_reducible refine Kd.C_drewN ?_ _) | (with_reducible refine Kd.C_drew ?_))); (case side4 => exact (Kd.R_reads' HO111.out).2.1); rintro e w' ⟨rfl, ⟨nd, rfl⟩⟩; refine ⟨_, rfl, ?_⟩) | (go_at_call 15; (with_reducible refine (rubricklaw07_knows.calls kj7  t113 _ ?side1 A23.out).mono ?_); (case side1 => exact gw_step hG_ (by repeat (first | (with_reducible first | exact HB.out | apply below_alloc | apply pw_below_drewN | apply below_drew1) | exact HB.out))); rintro e w27 ⟨rfl, hb⟩; have n0_ := Aside0.mk (Kd.R_below (by (with_reducible repeat (first | apply Kd.R_alloc | apply Kd.R_drewN | apply Kd.R_drew)); exact HO_5.out) hb); have n1_ := Aside0.mk (Kd.R_below (by (with_reducible repeat (first | apply Kd.R_alloc | apply Kd.R_drewN | apply Kd.R_drew)); exact HO111.out) hb); have n2_ := Aside0.mk (below_step (by repeat (first | (with_reducible first | exact HB.out | apply below_alloc | apply pw_below_drewN | apply below_drew1) | exact HB.out)) hb); clear HO_5; clear HO111; clear HB; have HO_5 := n0_; have HO111 := n1_; have HB := n2_; clear n0_ n1_ n2_; (try clear hb); (try clear hb2); (try clear hk); (try clear hi)))
       go_ret
       exact ⟨by first | rfl | (simp [errW_none, errW_some] <;> rfl) | exact congrArg (fun b_ : Bool => Ending.returned (Value.bool b_)) HT2_.out | (simp [*, errW_none, errW_some] <;> rfl), by repeat (first | (with_reducible first | exact HB.out | apply below_alloc | apply pw_below_drewN | apply below_drew1) | exact HB.out)⟩
      ·rw [if_neg c22] at H
       have c22b0 : (t104 == 0) = false := beq_eq_false_iff_ne.mpr c22
       have c22b1 : (t104 != 0) = true := bne_iff_ne.mpr c22
       cases H
     ·replace c21 := Bool.eq_false_iff.mpr c21
      subst c21
      have H1 : (some false) = some true := by rw [if_neg (show ¬ (false = true) by decide)] at H; exact H
      clear H
      have H := H1
      clear H1
      cases H
end Go.Proofs.YtpmefpdafkbphaaDoor.PConsProves

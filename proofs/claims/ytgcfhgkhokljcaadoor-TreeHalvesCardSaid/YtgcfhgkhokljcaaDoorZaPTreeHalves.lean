import Derived.Test.YtgcfhgkhokljcaaDoorProg
import Derived.Below
import Derived.Deep.Draws
import Derived.Deep.AppendLies
import Derived.Maps.AppendAt
import Derived.OwnWalk
import Derived.Laws.BytesArg
import Derived.Laws.MakeOwn
import Derived.Laws.OwnMore
import Derived.Deep.OwnRows
import Derived.Tactics
import Derived.Lib.ConvBytes
import Derived.Laws.Slices
import Derived.WalkKit
import Derived.KernelRfl
import Derived.RowKit3
import Derived.Deep.LoopGhost
import Derived.Deep.QuietTactic
import Derived.BigQuiet
import Derived.WideLaws
import Derived.Deep.DeepCutAuto
import Derived.Deep.CutBlock
import Derived.Deep.RegionHeld3
import Derived.Laws.Rows
import Derived.Lib.AppendStr
import Derived.ArgAppend
import Derived.Laws.IdiomCopy
import Derived.OrdersHeld
import Derived.Laws.BitsLemmas
import Derived.RowKit
import Derived.WalkMore
import Derived.Test.YtgcfhgkhokljcaaDoorZaHShaD
import Derived.Test.YtgcfhgkhokljcaaDoorZaPS
import Derived.Test.YtgcfhgkhokljcaaDoorZaPR
import Derived.Test.YtgcfhgkhokljcaaDoorZaPT
import Derived.Test.YtgcfhgkhokljcaaDoorZaPB
import Derived.Test.YtgcfhgkhokljcaaDoorZaHNode
import Derived.Test.YtgcfhgkhokljcaaDoorZaPC
import Derived.Test.YtgcfhgkhokljcaaDoorZaPK
import Derived.Test.YtgcfhgkhokljcaaDoorZaWWords
import Derived.Test.YtgcfhgkhokljcaaDoorZaWLast
import Derived.Test.YtgcfhgkhokljcaaDoorZaWTab
import Derived.Test.YtgcfhgkhokljcaaDoorZaWApart
import Derived.Test.YtgcfhgkhokljcaaDoorZaWFoot
import Derived.Test.YtgcfhgkhokljcaaDoorZaWKept
import Derived.Test.YtgcfhgkhokljcaaDoorZaWShare
import Derived.Test.YtgcfhgkhokljcaaDoorZaWN
import Derived.Laws.StructEq
import Derived.Test.YtgcfhgkhokljcaaDoorZaWRepsOne
import Derived.Test.YtgcfhgkhokljcaaDoorZaWInv
import Derived.Test.YtgcfhgkhokljcaaDoorZaWGuard
import Derived.Test.YtgcfhgkhokljcaaDoorZaWNEv
import Derived.Test.YtgcfhgkhokljcaaDoorZaWMore
-- PRINTED by print.py (a twelfth state) out of the translation. Not trusted: Lean checks it.
namespace Go.Proofs.YtgcfhgkhokljcaaDoor.PTreeHalves
open Go.RowKit  Go.Proofs.YtgcfhgkhokljcaaDoor.HSha Go.Proofs.YtgcfhgkhokljcaaDoor.PS Go.Proofs.YtgcfhgkhokljcaaDoor.PR Go.Proofs.YtgcfhgkhokljcaaDoor.PT Go.Proofs.YtgcfhgkhokljcaaDoor.PB Go.Proofs.YtgcfhgkhokljcaaDoor.HNode Go.Proofs.YtgcfhgkhokljcaaDoor.PC Go.Proofs.YtgcfhgkhokljcaaDoor.PK Go.Proofs.YtgcfhgkhokljcaaDoorW.PrintWords Go.Proofs.YtgcfhgkhokljcaaDoorW.PrintLast Go.Proofs.YtgcfhgkhokljcaaDoorW.PrintMore
attribute [local go_sem] max2_int min2_int max_two min_two max_three min_three max_four min_four   -- for this text's walks alone
set_option linter.unusedVariables false
set_option linter.unusedSimpArgs false
def errW : Option Int → Value
 | none => .nilIface
 | some c => .iface 0 (.int .i64 c)
theorem errW_none : errW none = .nilIface := rfl
theorem errW_some (c : Int) : errW (some c) = .iface 0 (.int .i64 c) := rfl
-- the values' own types
def rd_L1 (xs : List (List Int)) (i : Int) : (List Int) := xs.getD i.toNat ([] : List Int)
theorem at_L1 {w : World} {A : Option Addr} {n : Nat} {xs : List (List Int)} (h : Kd.C (Kd.slice 5 (Kd.int .u8)) w A n xs) (i : Int) (h0 : 0 ≤ i) (h1 : i < n) : ∃ ad A0 c0, A = some ad ∧ w.cell? (ad.add i.toNat) = some (.slice A0 (rd_L1 xs i).length c0) ∧ (rd_L1 xs i).length ≤ c0 ∧ (Kd.int .u8).C w A0 (rd_L1 xs i).length (rd_L1 xs i) := by
 obtain ⟨ad, c, e, _, hK, hc0⟩ := Kd.C_get h ([] : List Int) i h0 h1
 have hc : ∀ j u, c[j]? = some u → w.cell? (ad.add (i.toNat * 1 + j)) = some u := hc0
 obtain ⟨A0, c0, rfl, l0, g0⟩ := hK
 exact ⟨ad, A0, c0, e, by have hq := hc 0 _ rfl; rwa [Nat.mul_one, Nat.add_zero] at hq, l0, g0⟩
end Go.Proofs.YtgcfhgkhokljcaaDoor.PTreeHalves
namespace Go.Proofs.YtgcfhgkhokljcaaDoor.PTreeHalves
open Go.RowKit  Go.Proofs.YtgcfhgkhokljcaaDoor.HSha Go.Proofs.YtgcfhgkhokljcaaDoor.PS Go.Proofs.YtgcfhgkhokljcaaDoor.PR Go.Proofs.YtgcfhgkhokljcaaDoor.PT Go.Proofs.YtgcfhgkhokljcaaDoor.PB Go.Proofs.YtgcfhgkhokljcaaDoor.HNode Go.Proofs.YtgcfhgkhokljcaaDoor.PC Go.Proofs.YtgcfhgkhokljcaaDoor.PK Go.Proofs.YtgcfhgkhokljcaaDoorW.PrintWords Go.Proofs.YtgcfhgkhokljcaaDoorW.PrintLast Go.Proofs.YtgcfhgkhokljcaaDoorW.PrintMore
attribute [local go_sem] max2_int min2_int max_two min_two max_three min_three max_four min_four   -- for this text's walks alone
set_option linter.unusedVariables false
set_option linter.unusedSimpArgs false
/-! ### rubricklaw06_TreeHalves: function 8 -/
def rubricklaw06_TreeHalves.j0 : Nat → List ByteArray → Int → Bool → Option (Bool)
 | 0, _, _, _ => none
 | k + 1, x3, x4, x40 => if x40 = true then (some false) else ((tree_Range.f k x3 0 x4).bind fun bt106 => ((tree_Range.f k x3 x4 (x3.length : Int)).bind fun bt108 => ((tree_Root.f k x3).bind fun bt110 => ((seal_Node.f k bt106.1 bt108.1).bind fun bt112 => (if bt106.2 = 0 then (if bt108.2 = 0 then (if bt110.2 = 0 then (if bt112.2 = 0 then (if bt112.1.toList = bt110.1.toList then ((rubricklaw06_knows.f k).bind fun t114 => (some t114)) else (some false)) else (some false)) else (some false)) else (some false)) else (some false))))))
def rubricklaw06_TreeHalves.f (k : Nat) (l0 : List (List Int)) : Option (Bool) := (rubricklaw06_digests.f k l0 60).bind fun t101 => ((tree_Split.f k (t101.length : Int)).bind fun t104 => (if (t101.length : Int) < 2 then (if t104 = 0 then ((rubricklaw06_knows.f k).bind fun t105 => (some t105)) else (some false)) else (if t104 < 1 then (rubricklaw06_TreeHalves.j0 k t101 t104 true) else (if t104 ≥ (t101.length : Int) then (rubricklaw06_TreeHalves.j0 k t101 t104 true) else (rubricklaw06_TreeHalves.j0 k t101 t104 (decide ((wrap64 (2 * t104)) < (t101.length : Int))))))))
set_option maxHeartbeats 8000000 in
set_option maxRecDepth 100000 in
theorem rubricklaw06_TreeHalves.calls (k : Nat) (A0 : Option Addr) (c0 : Nat) (l0 : List (List Int)) (r : Bool) (w : World) (hG_ : Aside0 (GW w)) (hr0 : Kd.C (Kd.slice 5 (Kd.int .u8)) w A0 l0.length l0) (hc0 : l0.length ≤ c0) (h : rubricklaw06_TreeHalves.f k l0 = some r) (hT_ : r = true) :
  Calls Tryd.prog 8 #[.slice A0 l0.length c0] w fun e w' => e = .returned (.bool r) ∧ Below w.heap.size w w' := by
 have HR0 := Aside0.mk hr0
 have HC0 := Aside0.mk hc0
 clear hr0 hc0
 have HB := Aside0.mk (Below.refl w.heap.size w)
 subst hT_
 have H : ((rubricklaw06_digests.f k l0 60).bind fun t101 => ((tree_Split.f k (t101.length : Int)).bind fun t104 => (if (t101.length : Int) < 2 then (if t104 = 0 then ((rubricklaw06_knows.f k).bind fun t105 => (some t105)) else (some false)) else (if t104 < 1 then (rubricklaw06_TreeHalves.j0 k t101 t104 true) else (if t104 ≥ (t101.length : Int) then (rubricklaw06_TreeHalves.j0 k t101 t104 true) else (rubricklaw06_TreeHalves.j0 k t101 t104 (decide ((wrap64 (2 * t104)) < (t101.length : Int))))))))) = some true := h
 clear h
 replace H := Option.bind_eq_some_iff.mp H
 obtain ⟨t101, A20, H⟩ := H
 replace H : ((tree_Split.f k (t101.length : Int)).bind fun t104 => (if (t101.length : Int) < 2 then (if t104 = 0 then ((rubricklaw06_knows.f k).bind fun t105 => (some t105)) else (some false)) else (if t104 < 1 then (rubricklaw06_TreeHalves.j0 k t101 t104 true) else (if t104 ≥ (t101.length : Int) then (rubricklaw06_TreeHalves.j0 k t101 t104 true) else (rubricklaw06_TreeHalves.j0 k t101 t104 (decide ((wrap64 (2 * t104)) < (t101.length : Int)))))))) = some true := H
 have A2 := Aside0.mk A20
 clear A20
 replace H := Option.bind_eq_some_iff.mp H
 obtain ⟨t104, A30, H⟩ := H
 replace H : (if (t101.length : Int) < 2 then (if t104 = 0 then ((rubricklaw06_knows.f k).bind fun t105 => (some t105)) else (some false)) else (if t104 < 1 then (rubricklaw06_TreeHalves.j0 k t101 t104 true) else (if t104 ≥ (t101.length : Int) then (rubricklaw06_TreeHalves.j0 k t101 t104 true) else (rubricklaw06_TreeHalves.j0 k t101 t104 (decide ((wrap64 (2 * t104)) < (t101.length : Int))))))) = some true := H
 have A3 := Aside0.mk A30
 clear A30
 by_cases c4 : (t101.length : Int) < 2
 ·rw [if_pos c4] at H
  have c4b0 : decide ((t101.length : Int) < 2) = true := decide_eq_true c4
  have c4b1 : decide (t101.length < 2) = true := decide_eq_true (by omega)
  clear c4
  by_cases c5 : t104 = 0
  ·rw [if_pos c5] at H
   have c5b0 : (t104 == 0) = true := beq_iff_eq.mpr c5
   have c5b1 : (t104 != 0) = false := bne_eq_false_iff_eq.mpr c5
   clear c5
   replace H := Option.bind_eq_some_iff.mp H
   obtain ⟨t105, A60, H⟩ := H
   replace H : (some t105) = some true := H
   have A6 := Aside0.mk A60
   clear A60
   have HT2_ := Aside0.mk (Option.some.inj H)
   clear H
   go_enter Tryd.func8, Tryd.ntmps8
   go_wp2_with (first | ((with_reducible refine gate_callee (f := 20) rfl ?_); refine goesL_ (some 14) rfl rfl Tryd.func20 (by kernel_rfl) rfl #[.slice A0 l0.length c0, .int .i64 60] rfl (by (try simp only [List.map_toArray, List.map_cons, List.map_nil]); first | done | rfl | (simp only [List.length_drop, List.length_take]; rfl)) ?_; (with_reducible refine (rubricklaw06_digests.calls k _ _ l0 60 t101 _ ?side1 ?side2 A2.out).mono ?_); (case side1 => repeat (first | exact HR0.out | (with_reducible refine Kd.C_alloc ?_ _) | (with_reducible refine Kd.C_drewN ?_ _) | (with_reducible refine Kd.C_drew ?_))); (case side2 => exact HC0.out); rintro e w7 ⟨v102, rfl, ho0, hb⟩; refine ⟨_, rfl, ?_⟩; have n0_ := Aside0.mk (Kd.R_lower ho0 (below_size (by repeat (first | (with_reducible first | exact HB.out | apply below_alloc | apply pw_below_drewN | apply below_drew1) | exact HB.out)))); have n1_ := Aside0.mk (below_step (by repeat (first | (with_reducible first | exact HB.out | apply below_alloc | apply pw_below_drewN | apply below_drew1) | exact HB.out)) hb); clear HB; have HO103 := n0_; have HB := n1_; clear n0_ n1_; (try clear hb); (try clear hb2); (try clear hk); (try clear hi); (try clear ho0); obtain ⟨Ao8, co8, eo8⟩ := Kd.R_slice HO103.out; subst eo8) | ((with_reducible refine gate_callee (f := 25) rfl ?_); refine goesL_ (some 17) rfl rfl Tryd.func25 (by kernel_rfl) rfl #[.int .i64 (t101.length : Int)] rfl (by (try simp only [List.map_toArray, List.map_cons, List.map_nil]); first | done | rfl | (simp only [List.length_drop, List.length_take]; rfl)) ?_; (with_reducible refine (tree_Split.calls k (t101.length : Int) t104 _ A3.out).mono ?_); rintro e w' ⟨rfl, ⟨nd, rfl⟩⟩; refine ⟨_, rfl, ?_⟩) | (go_at_call 12; (with_reducible refine (rubricklaw06_knows.calls k  t105 _ ?side1 A6.out).mono ?_); (case side1 => exact gw_step hG_ (by repeat (first | (with_reducible first | exact HB.out | apply below_alloc | apply pw_below_drewN | apply below_drew1) | exact HB.out))); rintro e w9 ⟨rfl, hb⟩; have n0_ := Aside0.mk (Kd.R_below (by (with_reducible repeat (first | apply Kd.R_alloc | apply Kd.R_drewN | apply Kd.R_drew)); exact HO103.out) hb); have n1_ := Aside0.mk (below_step (by repeat (first | (with_reducible first | exact HB.out | apply below_alloc | apply pw_below_drewN | apply below_drew1) | exact HB.out)) hb); clear HO103; clear HB; have HO103 := n0_; have HB := n1_; clear n0_ n1_; (try clear hb); (try clear hb2); (try clear hk); (try clear hi)))
   go_ret
   exact ⟨by first | rfl | (simp [errW_none, errW_some] <;> rfl) | exact congrArg (fun b_ : Bool => Ending.returned (Value.bool b_)) HT2_.out | (simp [*, errW_none, errW_some] <;> rfl), by repeat (first | (with_reducible first | exact HB.out | apply below_alloc | apply pw_below_drewN | apply below_drew1) | exact HB.out)⟩
  ·rw [if_neg c5] at H
   have c5b0 : (t104 == 0) = false := beq_eq_false_iff_ne.mpr c5
   have c5b1 : (t104 != 0) = true := bne_iff_ne.mpr c5
   cases H
 ·rw [if_neg c4] at H
  have c4b0 : decide ((t101.length : Int) < 2) = false := decide_eq_false c4
  have c4b1 : decide (t101.length < 2) = false := decide_eq_false (by omega)
  clear c4
  have HC10 := Aside0.mk H
  clear H
  go_enter Tryd.func8, Tryd.ntmps8
  go_upto_region 5 with (first | ((with_reducible refine gate_callee (f := 20) rfl ?_); refine goesL_ (some 14) rfl rfl Tryd.func20 (by kernel_rfl) rfl #[.slice A0 l0.length c0, .int .i64 60] rfl (by (try simp only [List.map_toArray, List.map_cons, List.map_nil]); first | done | rfl | (simp only [List.length_drop, List.length_take]; rfl)) ?_; (with_reducible refine (rubricklaw06_digests.calls k _ _ l0 60 t101 _ ?side1 ?side2 A2.out).mono ?_); (case side1 => repeat (first | exact HR0.out | (with_reducible refine Kd.C_alloc ?_ _) | (with_reducible refine Kd.C_drewN ?_ _) | (with_reducible refine Kd.C_drew ?_))); (case side2 => exact HC0.out); rintro e w11 ⟨v102, rfl, ho0, hb⟩; refine ⟨_, rfl, ?_⟩; have n0_ := Aside0.mk (Kd.R_lower ho0 (below_size (by repeat (first | (with_reducible first | exact HB.out | apply below_alloc | apply pw_below_drewN | apply below_drew1) | exact HB.out)))); have n1_ := Aside0.mk (below_step (by repeat (first | (with_reducible first | exact HB.out | apply below_alloc | apply pw_below_drewN | apply below_drew1) | exact HB.out)) hb); clear HB; have HO103 := n0_; have HB := n1_; clear n0_ n1_; (try clear hb); (try clear hb2); (try clear hk); (try clear hi); (try clear ho0); obtain ⟨Ao12, co12, eo12⟩ := Kd.R_slice HO103.out; subst eo12) | ((with_reducible refine gate_callee (f := 25) rfl ?_); refine goesL_ (some 17) rfl rfl Tryd.func25 (by kernel_rfl) rfl #[.int .i64 (t101.length : Int)] rfl (by (try simp only [List.map_toArray, List.map_cons, List.map_nil]); first | done | rfl | (simp only [List.length_drop, List.length_take]; rfl)) ?_; (with_reducible refine (tree_Split.calls k (t101.length : Int) t104 _ A3.out).mono ?_); rintro e w' ⟨rfl, ⟨nd, rfl⟩⟩; refine ⟨_, rfl, ?_⟩))
  (try simp only [Act.put, List.setIfInBounds_toArray, List.set_cons_zero, List.set_cons_succ])
  go_cut [40] (fun v40 wc => ∃ (kq : Nat) (x40_9 : Bool), v40 = .bool x40_9 ∧ Aside0 (rubricklaw06_TreeHalves.j0 kq t101 t104 x40_9 = some true) ∧ Aside0 (kq ≤ k) ∧ Aside0 (Kd.R Kd.string 9 wc w.heap.size (fun _ => True) (.slice Ao12 t101.length co12) t101) ∧ Aside0 (Below w.heap.size w wc))
  case first =>
   have H := HC10.out
   clear HC10
   by_cases c13 : t104 < 1
   ·rw [if_pos c13] at H
    have c13b0 : decide (t104 < 1) = true := decide_eq_true c13
    clear c13
    (first | rw [c13b0] | (simp only [i64_w, i32_w]; rw [c13b0]) | skip)
    have H' := Aside0.mk H
    clear H
    go_wp2
    go_meet
    case rel => exact ⟨_, (true), (by first | rfl | (simp; done) | (simp [*]; done)), H', ⟨by first | omega | exact Nat.le_refl _⟩, ⟨by (with_reducible repeat (first | apply Kd.R_alloc | apply Kd.R_drewN | apply Kd.R_drew)); exact HO103.out⟩, ⟨by repeat (first | (with_reducible first | exact HB.out | apply below_alloc | apply pw_below_drewN | apply below_drew1) | exact HB.out)⟩⟩
   ·rw [if_neg c13] at H
    have c13b0 : decide (t104 < 1) = false := decide_eq_false c13
    clear c13
    (first | rw [c13b0] | (simp only [i64_w, i32_w]; rw [c13b0]) | skip)
    by_cases c14 : t104 ≥ (t101.length : Int)
    ·rw [if_pos c14] at H
     have c14b0 : decide ((t101.length : Int) ≤ t104) = true := decide_eq_true c14
     clear c14
     have H' := Aside0.mk H
     clear H
     go_wp2
     go_meet
     case rel => exact ⟨_, (true), (by first | rfl | (simp; done) | (simp [*]; done)), H', ⟨by first | omega | exact Nat.le_refl _⟩, ⟨by (with_reducible repeat (first | apply Kd.R_alloc | apply Kd.R_drewN | apply Kd.R_drew)); exact HO103.out⟩, ⟨by repeat (first | (with_reducible first | exact HB.out | apply below_alloc | apply pw_below_drewN | apply below_drew1) | exact HB.out)⟩⟩
    ·rw [if_neg c14] at H
     have c14b0 : decide ((t101.length : Int) ≤ t104) = false := decide_eq_false c14
     clear c14
     have H' := Aside0.mk H
     clear H
     go_wp2
     go_meet
     case rel => exact ⟨_, (decide ((wrap64 (2 * t104)) < (t101.length : Int))), (by first | rfl | (simp; done) | (simp [*]; done)), H', ⟨by first | omega | exact Nat.le_refl _⟩, ⟨by (with_reducible repeat (first | apply Kd.R_alloc | apply Kd.R_drewN | apply Kd.R_drew)); exact HO103.out⟩, ⟨by repeat (first | (with_reducible first | exact HB.out | apply below_alloc | apply pw_below_drewN | apply below_drew1) | exact HB.out)⟩⟩
  case rest =>
   clear HC10
   try clear c1
   try clear c2
   try clear p2
   try clear c4
   try clear c4b0
   try clear c4b1
   try clear c5
   try clear c5b0
   try clear c5b1
   try clear p6
   try clear c8
   try clear c13
   try clear c13b0
   try clear c14
   try clear c14b0
   obtain ⟨kq, x40_9, rfl, HA, HJ9, HO_3, HB⟩ := hcut
   cases kq with
   | zero => exact absurd HA.out (by simp [rubricklaw06_TreeHalves.j0])
   | succ kj9 =>
    have H := HA.out
    clear HA
    simp only [rubricklaw06_TreeHalves.j0] at H
    by_cases c15 : x40_9 = true
    ·subst c15
     have H1 : (some false) = some true := by rw [if_pos rfl] at H; exact H
     clear H
     have H := H1
     clear H1
     cases H
    ·replace c15 := Bool.eq_false_iff.mpr c15
     subst c15
     have H1 : ((tree_Range.f kj9 t101 0 t104).bind fun bt106 => ((tree_Range.f kj9 t101 t104 (t101.length : Int)).bind fun bt108 => ((tree_Root.f kj9 t101).bind fun bt110 => ((seal_Node.f kj9 bt106.1 bt108.1).bind fun bt112 => (if bt106.2 = 0 then (if bt108.2 = 0 then (if bt110.2 = 0 then (if bt112.2 = 0 then (if bt112.1.toList = bt110.1.toList then ((rubricklaw06_knows.f kj9).bind fun t114 => (some t114)) else (some false)) else (some false)) else (some false)) else (some false)) else (some false)))))) = some true := by rw [if_neg (show ¬ (false = true) by decide)] at H; exact H
     clear H
     have H := H1
     clear H1
     replace H := Option.bind_eq_some_iff.mp H
     obtain ⟨⟨t106, t107⟩, A160, H⟩ := H
     replace H : ((tree_Range.f kj9 t101 t104 (t101.length : Int)).bind fun bt108 => ((tree_Root.f kj9 t101).bind fun bt110 => ((seal_Node.f kj9 t106 bt108.1).bind fun bt112 => (if t107 = 0 then (if bt108.2 = 0 then (if bt110.2 = 0 then (if bt112.2 = 0 then (if bt112.1.toList = bt110.1.toList then ((rubricklaw06_knows.f kj9).bind fun t114 => (some t114)) else (some false)) else (some false)) else (some false)) else (some false)) else (some false))))) = some true := H
     have A16 := Aside0.mk A160
     clear A160
     replace H := Option.bind_eq_some_iff.mp H
     obtain ⟨⟨t108, t109⟩, A170, H⟩ := H
     replace H : ((tree_Root.f kj9 t101).bind fun bt110 => ((seal_Node.f kj9 t106 t108).bind fun bt112 => (if t107 = 0 then (if t109 = 0 then (if bt110.2 = 0 then (if bt112.2 = 0 then (if bt112.1.toList = bt110.1.toList then ((rubricklaw06_knows.f kj9).bind fun t114 => (some t114)) else (some false)) else (some false)) else (some false)) else (some false)) else (some false)))) = some true := H
     have A17 := Aside0.mk A170
     clear A170
     replace H := Option.bind_eq_some_iff.mp H
     obtain ⟨⟨t110, t111⟩, A180, H⟩ := H
     replace H : ((seal_Node.f kj9 t106 t108).bind fun bt112 => (if t107 = 0 then (if t109 = 0 then (if t111 = 0 then (if bt112.2 = 0 then (if bt112.1.toList = t110.toList then ((rubricklaw06_knows.f kj9).bind fun t114 => (some t114)) else (some false)) else (some false)) else (some false)) else (some false)) else (some false))) = some true := H
     have A18 := Aside0.mk A180
     clear A180
     replace H := Option.bind_eq_some_iff.mp H
     obtain ⟨⟨t112, t113⟩, A190, H⟩ := H
     replace H : (if t107 = 0 then (if t109 = 0 then (if t111 = 0 then (if t113 = 0 then (if t112.toList = t110.toList then ((rubricklaw06_knows.f kj9).bind fun t114 => (some t114)) else (some false)) else (some false)) else (some false)) else (some false)) else (some false)) = some true := H
     have A19 := Aside0.mk A190
     clear A190
     by_cases c20 : t107 = 0
     ·rw [if_pos c20] at H
      have c20b0 : (t107 == 0) = true := beq_iff_eq.mpr c20
      have c20b1 : (t107 != 0) = false := bne_eq_false_iff_eq.mpr c20
      clear c20
      by_cases c21 : t109 = 0
      ·rw [if_pos c21] at H
       have c21b0 : (t109 == 0) = true := beq_iff_eq.mpr c21
       have c21b1 : (t109 != 0) = false := bne_eq_false_iff_eq.mpr c21
       clear c21
       by_cases c22 : t111 = 0
       ·rw [if_pos c22] at H
        have c22b0 : (t111 == 0) = true := beq_iff_eq.mpr c22
        have c22b1 : (t111 != 0) = false := bne_eq_false_iff_eq.mpr c22
        clear c22
        by_cases c23 : t113 = 0
        ·rw [if_pos c23] at H
         have c23b0 : (t113 == 0) = true := beq_iff_eq.mpr c23
         have c23b1 : (t113 != 0) = false := bne_eq_false_iff_eq.mpr c23
         clear c23
         by_cases c24 : t112.toList = t110.toList
         ·rw [if_pos c24] at H
          have c24b0 : (t112.toList == t110.toList) = true := beq_iff_eq.mpr c24
          have c24b1 : (t112.toList != t110.toList) = false := bne_eq_false_iff_eq.mpr c24
          clear c24
          replace H := Option.bind_eq_some_iff.mp H
          obtain ⟨t114, A250, H⟩ := H
          replace H : (some t114) = some true := H
          have A25 := Aside0.mk A250
          clear A250
          have HT2_ := Aside0.mk (Option.some.inj H)
          clear H
          go_wp2_with (first | ((with_reducible refine gate_callee (f := 24) rfl ?_); refine goesL_ (some 44) rfl rfl Tryd.func24 (by kernel_rfl) rfl #[.slice Ao12 t101.length co12, .int .i64 0, .int .i64 t104] rfl (by (try simp only [List.map_toArray, List.map_cons, List.map_nil]); first | done | rfl | (simp only [List.length_drop, List.length_take]; rfl)) ?_; (with_reducible refine (tree_Range.calls kj9 _ _ t101 0 t104 t106 t107 _ ?side3 ?side1 ?side2 A16.out).mono ?_); (case side1 => repeat (first | exact (Kd.R_reads' HO_3.out).2.2 | (with_reducible refine Kd.C_alloc ?_ _) | (with_reducible refine Kd.C_drewN ?_ _) | (with_reducible refine Kd.C_drew ?_))); (case side2 => exact (Kd.R_reads' HO_3.out).2.1); (case side3 => exact gw_step hG_ (by repeat (first | (with_reducible first | exact HB.out | apply below_alloc | apply pw_below_drewN | apply below_drew1) | exact HB.out))); rintro e w26 ⟨rfl, hb⟩; refine ⟨_, rfl, ?_⟩; have n0_ := Aside0.mk (Kd.R_below (by (with_reducible repeat (first | apply Kd.R_alloc | apply Kd.R_drewN | apply Kd.R_drew)); exact HO_3.out) hb); have n1_ := Aside0.mk (below_step (by repeat (first | (with_reducible first | exact HB.out | apply below_alloc | apply pw_below_drewN | apply below_drew1) | exact HB.out)) hb); clear HO_3; clear HB; have HO_3 := n0_; have HB := n1_; clear n0_ n1_; (try clear hb); (try clear hb2); (try clear hk); (try clear hi)) | ((with_reducible refine gate_callee (f := 24) rfl ?_); refine goesL_ (some 52) rfl rfl Tryd.func24 (by kernel_rfl) rfl #[.slice Ao12 t101.length co12, .int .i64 t104, .int .i64 (t101.length : Int)] rfl (by (try simp only [List.map_toArray, List.map_cons, List.map_nil]); first | done | rfl | (simp only [List.length_drop, List.length_take]; rfl)) ?_; (with_reducible refine (tree_Range.calls kj9 _ _ t101 t104 (t101.length : Int) t108 t109 _ ?side3 ?side1 ?side2 A17.out).mono ?_); (case side1 => repeat (first | exact (Kd.R_reads' HO_3.out).2.2 | (with_reducible refine Kd.C_alloc ?_ _) | (with_reducible refine Kd.C_drewN ?_ _) | (with_reducible refine Kd.C_drew ?_))); (case side2 => exact (Kd.R_reads' HO_3.out).2.1); (case side3 => exact gw_step hG_ (by repeat (first | (with_reducible first | exact HB.out | apply below_alloc | apply pw_below_drewN | apply below_drew1) | exact HB.out))); rintro e w27 ⟨rfl, hb⟩; refine ⟨_, rfl, ?_⟩; have n0_ := Aside0.mk (Kd.R_below (by (with_reducible repeat (first | apply Kd.R_alloc | apply Kd.R_drewN | apply Kd.R_drew)); exact HO_3.out) hb); have n1_ := Aside0.mk (below_step (by repeat (first | (with_reducible first | exact HB.out | apply below_alloc | apply pw_below_drewN | apply below_drew1) | exact HB.out)) hb); clear HO_3; clear HB; have HO_3 := n0_; have HB := n1_; clear n0_ n1_; (try clear hb); (try clear hb2); (try clear hk); (try clear hi)) | ((with_reducible refine gate_callee (f := 21) rfl ?_); refine goesL_ (some 57) rfl rfl Tryd.func21 (by kernel_rfl) rfl #[.slice Ao12 t101.length co12] rfl (by (try simp only [List.map_toArray, List.map_cons, List.map_nil]); first | done | rfl | (simp only [List.length_drop, List.length_take]; rfl)) ?_; (with_reducible refine (tree_Root.calls kj9 _ _ t101 t110 t111 _ ?side3 ?side1 ?side2 A18.out).mono ?_); (case side1 => repeat (first | exact (Kd.R_reads' HO_3.out).2.2 | (with_reducible refine Kd.C_alloc ?_ _) | (with_reducible refine Kd.C_drewN ?_ _) | (with_reducible refine Kd.C_drew ?_))); (case side2 => exact (Kd.R_reads' HO_3.out).2.1); (case side3 => exact gw_step hG_ (by repeat (first | (with_reducible first | exact HB.out | apply below_alloc | apply pw_below_drewN | apply below_drew1) | exact HB.out))); rintro e w28 ⟨rfl, hb⟩; refine ⟨_, rfl, ?_⟩; have n0_ := Aside0.mk (Kd.R_below (by (with_reducible repeat (first | apply Kd.R_alloc | apply Kd.R_drewN | apply Kd.R_drew)); exact HO_3.out) hb); have n1_ := Aside0.mk (below_step (by repeat (first | (with_reducible first | exact HB.out | apply below_alloc | apply pw_below_drewN | apply below_drew1) | exact HB.out)) hb); clear HO_3; clear HB; have HO_3 := n0_; have HB := n1_; clear n0_ n1_; (try clear hb); (try clear hb2); (try clear hk); (try clear hi)) | ((with_reducible refine gate_callee (f := 28) rfl ?_); refine goesL_ (some 63) rfl rfl Tryd.func28 (by kernel_rfl) rfl #[.string t106, .string t108] rfl (by (try simp only [List.map_toArray, List.map_cons, List.map_nil]); first | done | rfl | (simp only [List.length_drop, List.length_take]; rfl)) ?_; (with_reducible refine (seal_Node.calls kj9 t106 t108 t112 t113 _ ?side1 A19.out).mono ?_); (case side1 => exact gw_step hG_ (by repeat (first | (with_reducible first | exact HB.out | apply below_alloc | apply pw_below_drewN | apply below_drew1) | exact HB.out))); rintro e w29 ⟨rfl, hb⟩; refine ⟨_, rfl, ?_⟩; have n0_ := Aside0.mk (Kd.R_below (by (with_reducible repeat (first | apply Kd.R_alloc | apply Kd.R_drewN | apply Kd.R_drew)); exact HO_3.out) hb); have n1_ := Aside0.mk (below_step (by repeat (first | (with_reducible first | exact HB.out | apply below_alloc | apply pw_below_drewN | apply below_drew1) | exact HB.out)) hb); clear HO_3; clear HB; have HO_3 := n0_; have HB := n1_; clear n0_ n1_; (try clear hb); (try clear hb2); (try clear hk); (try clear hi)) | (go_at_call 12; (with_reducible refine (rubricklaw06_knows.calls kj9  t114 _ ?side1 A25.out).mono ?_); (case side1 => exact gw_step hG_ (by repeat (first | (with_reducible first | exact HB.out | apply below_alloc | apply pw_below_drewN | apply below_drew1) | exact HB.out))); rintro e w30 ⟨rfl, hb⟩; have n0_ := Aside0.mk (Kd.R_below (by (with_reducible repeat (first | apply Kd.R_alloc | apply Kd.R_drewN | apply Kd.R_drew)); exact HO_3.out) hb); have n1_ := Aside0.mk (below_step (by repeat (first | (with_reducible first | exact HB.out | apply below_alloc | apply pw_below_drewN | apply below_drew1) | exact HB.out)) hb); clear HO_3; clear HB; have HO_3 := n0_; have HB := n1_; clear n0_ n1_; (try clear hb); (try clear hb2); (try clear hk); (try clear hi)))
          go_ret
          exact ⟨by first | rfl | (simp [errW_none, errW_some] <;> rfl) | exact congrArg (fun b_ : Bool => Ending.returned (Value.bool b_)) HT2_.out | (simp [*, errW_none, errW_some] <;> rfl), by repeat (first | (with_reducible first | exact HB.out | apply below_alloc | apply pw_below_drewN | apply below_drew1) | exact HB.out)⟩
         ·rw [if_neg c24] at H
          have c24b0 : (t112.toList == t110.toList) = false := beq_eq_false_iff_ne.mpr c24
          have c24b1 : (t112.toList != t110.toList) = true := bne_iff_ne.mpr c24
          cases H
        ·rw [if_neg c23] at H
         have c23b0 : (t113 == 0) = false := beq_eq_false_iff_ne.mpr c23
         have c23b1 : (t113 != 0) = true := bne_iff_ne.mpr c23
         cases H
       ·rw [if_neg c22] at H
        have c22b0 : (t111 == 0) = false := beq_eq_false_iff_ne.mpr c22
        have c22b1 : (t111 != 0) = true := bne_iff_ne.mpr c22
        cases H
      ·rw [if_neg c21] at H
       have c21b0 : (t109 == 0) = false := beq_eq_false_iff_ne.mpr c21
       have c21b1 : (t109 != 0) = true := bne_iff_ne.mpr c21
       cases H
     ·rw [if_neg c20] at H
      have c20b0 : (t107 == 0) = false := beq_eq_false_iff_ne.mpr c20
      have c20b1 : (t107 != 0) = true := bne_iff_ne.mpr c20
      cases H
end Go.Proofs.YtgcfhgkhokljcaaDoor.PTreeHalves

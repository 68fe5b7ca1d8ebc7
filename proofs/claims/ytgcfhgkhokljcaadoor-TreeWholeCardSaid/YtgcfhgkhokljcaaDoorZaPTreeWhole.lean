import Derived.Test.YtgcfhgkhokljcaaDoorProg
import Derived.Below
import Derived.Deep.Draws
import Derived.Deep.AppendLies
import Derived.Maps.AppendAt
import Derived.OwnWalk
import Derived.Laws.BytesArg
import Derived.Laws.MakeOwn
import Derived.Laws.OwnMore
import Derived.Deep.OwnRows
import Derived.Tactics
import Derived.Lib.ConvBytes
import Derived.Laws.Slices
import Derived.WalkKit
import Derived.KernelRfl
import Derived.RowKit3
import Derived.Deep.LoopGhost
import Derived.Deep.QuietTactic
import Derived.BigQuiet
import Derived.WideLaws
import Derived.Deep.DeepCutAuto
import Derived.Deep.CutBlock
import Derived.Deep.RegionHeld3
import Derived.Laws.Rows
import Derived.Lib.AppendStr
import Derived.ArgAppend
import Derived.Laws.IdiomCopy
import Derived.OrdersHeld
import Derived.Laws.BitsLemmas
import Derived.RowKit
import Derived.WalkMore
import Derived.Test.YtgcfhgkhokljcaaDoorZaHShaD
import Derived.Test.YtgcfhgkhokljcaaDoorZaPS
import Derived.Test.YtgcfhgkhokljcaaDoorZaPR
import Derived.Test.YtgcfhgkhokljcaaDoorZaPT
import Derived.Test.YtgcfhgkhokljcaaDoorZaPB
import Derived.Test.YtgcfhgkhokljcaaDoorZaHNode
import Derived.Test.YtgcfhgkhokljcaaDoorZaPC
import Derived.Test.YtgcfhgkhokljcaaDoorZaPK
import Derived.Test.YtgcfhgkhokljcaaDoorZaWWords
import Derived.Test.YtgcfhgkhokljcaaDoorZaWLast
import Derived.Test.YtgcfhgkhokljcaaDoorZaWTab
import Derived.Test.YtgcfhgkhokljcaaDoorZaWApart
import Derived.Test.YtgcfhgkhokljcaaDoorZaWFoot
import Derived.Test.YtgcfhgkhokljcaaDoorZaWKept
import Derived.Test.YtgcfhgkhokljcaaDoorZaWShare
import Derived.Test.YtgcfhgkhokljcaaDoorZaWN
import Derived.Laws.StructEq
import Derived.Test.YtgcfhgkhokljcaaDoorZaWRepsOne
import Derived.Test.YtgcfhgkhokljcaaDoorZaWInv
import Derived.Test.YtgcfhgkhokljcaaDoorZaWGuard
import Derived.Test.YtgcfhgkhokljcaaDoorZaWNEv
import Derived.Test.YtgcfhgkhokljcaaDoorZaWMore
-- PRINTED by print.py (a twelfth state) out of the translation. Not trusted: Lean checks it.
namespace Go.Proofs.YtgcfhgkhokljcaaDoor.PTreeWhole
open Go.RowKit  Go.Proofs.YtgcfhgkhokljcaaDoor.HSha Go.Proofs.YtgcfhgkhokljcaaDoor.PS Go.Proofs.YtgcfhgkhokljcaaDoor.PR Go.Proofs.YtgcfhgkhokljcaaDoor.PT Go.Proofs.YtgcfhgkhokljcaaDoor.PB Go.Proofs.YtgcfhgkhokljcaaDoor.HNode Go.Proofs.YtgcfhgkhokljcaaDoor.PC Go.Proofs.YtgcfhgkhokljcaaDoor.PK Go.Proofs.YtgcfhgkhokljcaaDoorW.PrintWords Go.Proofs.YtgcfhgkhokljcaaDoorW.PrintLast Go.Proofs.YtgcfhgkhokljcaaDoorW.PrintMore
attribute [local go_sem] max2_int min2_int max_two min_two max_three min_three max_four min_four   -- for this text's walks alone
set_option linter.unusedVariables false
set_option linter.unusedSimpArgs false
def errW : Option Int → Value
 | none => .nilIface
 | some c => .iface 0 (.int .i64 c)
theorem errW_none : errW none = .nilIface := rfl
theorem errW_some (c : Int) : errW (some c) = .iface 0 (.int .i64 c) := rfl
-- the values' own types
def rd_L1 (xs : List (List Int)) (i : Int) : (List Int) := xs.getD i.toNat ([] : List Int)
theorem at_L1 {w : World} {A : Option Addr} {n : Nat} {xs : List (List Int)} (h : Kd.C (Kd.slice 5 (Kd.int .u8)) w A n xs) (i : Int) (h0 : 0 ≤ i) (h1 : i < n) : ∃ ad A0 c0, A = some ad ∧ w.cell? (ad.add i.toNat) = some (.slice A0 (rd_L1 xs i).length c0) ∧ (rd_L1 xs i).length ≤ c0 ∧ (Kd.int .u8).C w A0 (rd_L1 xs i).length (rd_L1 xs i) := by
 obtain ⟨ad, c, e, _, hK, hc0⟩ := Kd.C_get h ([] : List Int) i h0 h1
 have hc : ∀ j u, c[j]? = some u → w.cell? (ad.add (i.toNat * 1 + j)) = some u := hc0
 obtain ⟨A0, c0, rfl, l0, g0⟩ := hK
 exact ⟨ad, A0, c0, e, by have hq := hc 0 _ rfl; rwa [Nat.mul_one, Nat.add_zero] at hq, l0, g0⟩
end Go.Proofs.YtgcfhgkhokljcaaDoor.PTreeWhole
namespace Go.Proofs.YtgcfhgkhokljcaaDoor.PTreeWhole
open Go.RowKit  Go.Proofs.YtgcfhgkhokljcaaDoor.HSha Go.Proofs.YtgcfhgkhokljcaaDoor.PS Go.Proofs.YtgcfhgkhokljcaaDoor.PR Go.Proofs.YtgcfhgkhokljcaaDoor.PT Go.Proofs.YtgcfhgkhokljcaaDoor.PB Go.Proofs.YtgcfhgkhokljcaaDoor.HNode Go.Proofs.YtgcfhgkhokljcaaDoor.PC Go.Proofs.YtgcfhgkhokljcaaDoor.PK Go.Proofs.YtgcfhgkhokljcaaDoorW.PrintWords Go.Proofs.YtgcfhgkhokljcaaDoorW.PrintLast Go.Proofs.YtgcfhgkhokljcaaDoorW.PrintMore
attribute [local go_sem] max2_int min2_int max_two min_two max_three min_three max_four min_four   -- for this text's walks alone
set_option linter.unusedVariables false
set_option linter.unusedSimpArgs false
/-! ### rubricklaw06_TreeWhole: function 9 -/
mutual
def rubricklaw06_TreeWhole.j0 : Nat → List ByteArray → ByteArray → Bool → Option (Bool)
 | 0, _, _, _ => none
 | k + 1, x3, x4, x37 => if x37 = true then (some false) else (rubricklaw06_TreeWhole.l0 k x3 x4 0)
def rubricklaw06_TreeWhole.l0 : Nat → List ByteArray → ByteArray → Int → Option (Bool)
 | 0, _, _, _ => none
 | k + 1, x3, x4, x8 => if x8 < (x3.length : Int) then ((tree_Range.f k x3 x8 (wrap64 (x8 + 1))).bind fun bt108 => (if 0 ≤ x8 then (if bt108.1.toList = (rdOf ByteArray.empty x3 x8).toList then (if bt108.2 = 0 then (rubricklaw06_TreeWhole.l0 k x3 x4 (wrap64 (x8 + 1))) else (some false)) else (some false)) else (none))) else (if (x3.length : Int) = 0 then ((sha_Sum.f ([] : List Int)).bind fun t111 => (if x4.toList = t111.toList then ((rubricklaw06_knows.f k).bind fun t112 => (some t112)) else (some false))) else ((tree_Path.f k x3 (wrap64 ((x3.length : Int) - 1))).bind fun bt113 => (if bt113.2 = 0 then ((rubrickref06_Steps.f k (wrap64 ((x3.length : Int) - 1)) (x3.length : Int)).bind fun t117 => (if (bt113.1.length : Int) = t117 then ((rubricklaw06_knows.f k).bind fun t118 => (some t118)) else (some false))) else (some false))))
end
def rubricklaw06_TreeWhole.f (k : Nat) (l0 : List (List Int)) : Option (Bool) := (rubricklaw06_digests.f k l0 60).bind fun t101 => ((tree_Root.f k t101).bind fun bt104 => ((tree_Range.f k t101 0 (t101.length : Int)).bind fun bt106 => (if bt104.2 = 0 then (if bt106.2 = 0 then (rubricklaw06_TreeWhole.j0 k t101 bt104.1 (bt104.1.toList != bt106.1.toList)) else (rubricklaw06_TreeWhole.j0 k t101 bt104.1 true)) else (rubricklaw06_TreeWhole.j0 k t101 bt104.1 true))))
set_option maxHeartbeats 8000000 in
set_option maxRecDepth 100000 in
theorem rubricklaw06_TreeWhole.calls (k : Nat) (A0 : Option Addr) (c0 : Nat) (l0 : List (List Int)) (r : Bool) (w : World) (hG_ : Aside0 (GW w)) (hr0 : Kd.C (Kd.slice 5 (Kd.int .u8)) w A0 l0.length l0) (hc0 : l0.length ≤ c0) (h : rubricklaw06_TreeWhole.f k l0 = some r) (hT_ : r = true) :
  Calls Tryd.prog 9 #[.slice A0 l0.length c0] w fun e w' => e = .returned (.bool r) ∧ Below w.heap.size w w' := by
 have HR0 := Aside0.mk hr0
 have HC0 := Aside0.mk hc0
 clear hr0 hc0
 have HB := Aside0.mk (Below.refl w.heap.size w)
 subst hT_
 have H : ((rubricklaw06_digests.f k l0 60).bind fun t101 => ((tree_Root.f k t101).bind fun bt104 => ((tree_Range.f k t101 0 (t101.length : Int)).bind fun bt106 => (if bt104.2 = 0 then (if bt106.2 = 0 then (rubricklaw06_TreeWhole.j0 k t101 bt104.1 (bt104.1.toList != bt106.1.toList)) else (rubricklaw06_TreeWhole.j0 k t101 bt104.1 true)) else (rubricklaw06_TreeWhole.j0 k t101 bt104.1 true))))) = some true := h
 clear h
 replace H := Option.bind_eq_some_iff.mp H
 obtain ⟨t101, A20, H⟩ := H
 replace H : ((tree_Root.f k t101).bind fun bt104 => ((tree_Range.f k t101 0 (t101.length : Int)).bind fun bt106 => (if bt104.2 = 0 then (if bt106.2 = 0 then (rubricklaw06_TreeWhole.j0 k t101 bt104.1 (bt104.1.toList != bt106.1.toList)) else (rubricklaw06_TreeWhole.j0 k t101 bt104.1 true)) else (rubricklaw06_TreeWhole.j0 k t101 bt104.1 true)))) = some true := H
 have A2 := Aside0.mk A20
 clear A20
 replace H := Option.bind_eq_some_iff.mp H
 obtain ⟨⟨t104, t105⟩, A30, H⟩ := H
 replace H : ((tree_Range.f k t101 0 (t101.length : Int)).bind fun bt106 => (if t105 = 0 then (if bt106.2 = 0 then (rubricklaw06_TreeWhole.j0 k t101 t104 (t104.toList != bt106.1.toList)) else (rubricklaw06_TreeWhole.j0 k t101 t104 true)) else (rubricklaw06_TreeWhole.j0 k t101 t104 true))) = some true := H
 have A3 := Aside0.mk A30
 clear A30
 replace H := Option.bind_eq_some_iff.mp H
 obtain ⟨⟨t106, t107⟩, A40, H⟩ := H
 replace H : (if t105 = 0 then (if t107 = 0 then (rubricklaw06_TreeWhole.j0 k t101 t104 (t104.toList != t106.toList)) else (rubricklaw06_TreeWhole.j0 k t101 t104 true)) else (rubricklaw06_TreeWhole.j0 k t101 t104 true)) = some true := H
 have A4 := Aside0.mk A40
 clear A40
 have HC5 := Aside0.mk H
 clear H
 go_enter Tryd.func9, Tryd.ntmps9
 go_upto_region 4 with (first | ((with_reducible refine gate_callee (f := 20) rfl ?_); refine goesL_ (some 14) rfl rfl Tryd.func20 (by kernel_rfl) rfl #[.slice A0 l0.length c0, .int .i64 60] rfl (by (try simp only [List.map_toArray, List.map_cons, List.map_nil]); first | done | rfl | (simp only [List.length_drop, List.length_take]; rfl)) ?_; (with_reducible refine (rubricklaw06_digests.calls k _ _ l0 60 t101 _ ?side1 ?side2 A2.out).mono ?_); (case side1 => repeat (first | exact HR0.out | (with_reducible refine Kd.C_alloc ?_ _) | (with_reducible refine Kd.C_drewN ?_ _) | (with_reducible refine Kd.C_drew ?_))); (case side2 => exact HC0.out); rintro e w6 ⟨v102, rfl, ho0, hb⟩; refine ⟨_, rfl, ?_⟩; have n0_ := Aside0.mk (Kd.R_lower ho0 (below_size (by repeat (first | (with_reducible first | exact HB.out | apply below_alloc | apply pw_below_drewN | apply below_drew1) | exact HB.out)))); have n1_ := Aside0.mk (below_step (by repeat (first | (with_reducible first | exact HB.out | apply below_alloc | apply pw_below_drewN | apply below_drew1) | exact HB.out)) hb); clear HB; have HO103 := n0_; have HB := n1_; clear n0_ n1_; (try clear hb); (try clear hb2); (try clear hk); (try clear hi); (try clear ho0); obtain ⟨Ao7, co7, eo7⟩ := Kd.R_slice HO103.out; subst eo7) | ((with_reducible refine gate_callee (f := 21) rfl ?_); refine goesL_ (some 17) rfl rfl Tryd.func21 (by kernel_rfl) rfl #[.slice Ao7 t101.length co7] rfl (by (try simp only [List.map_toArray, List.map_cons, List.map_nil]); first | done | rfl | (simp only [List.length_drop, List.length_take]; rfl)) ?_; (with_reducible refine (tree_Root.calls k _ _ t101 t104 t105 _ ?side3 ?side1 ?side2 A3.out).mono ?_); (case side1 => repeat (first | exact (Kd.R_reads' HO103.out).2.2 | (with_reducible refine Kd.C_alloc ?_ _) | (with_reducible refine Kd.C_drewN ?_ _) | (with_reducible refine Kd.C_drew ?_))); (case side2 => exact (Kd.R_reads' HO103.out).2.1); (case side3 => exact gw_step hG_ (by repeat (first | (with_reducible first | exact HB.out | apply below_alloc | apply pw_below_drewN | apply below_drew1) | exact HB.out))); rintro e w8 ⟨rfl, hb⟩; refine ⟨_, rfl, ?_⟩; have n0_ := Aside0.mk (Kd.R_below (by (with_reducible repeat (first | apply Kd.R_alloc | apply Kd.R_drewN | apply Kd.R_drew)); exact HO103.out) hb); have n1_ := Aside0.mk (below_step (by repeat (first | (with_reducible first | exact HB.out | apply below_alloc | apply pw_below_drewN | apply below_drew1) | exact HB.out)) hb); clear HO103; clear HB; have HO103 := n0_; have HB := n1_; clear n0_ n1_; (try clear hb); (try clear hb2); (try clear hk); (try clear hi)) | ((with_reducible refine gate_callee (f := 24) rfl ?_); refine goesL_ (some 24) rfl rfl Tryd.func24 (by kernel_rfl) rfl #[.slice Ao7 t101.length co7, .int .i64 0, .int .i64 (t101.length : Int)] rfl (by (try simp only [List.map_toArray, List.map_cons, List.map_nil]); first | done | rfl | (simp only [List.length_drop, List.length_take]; rfl)) ?_; (with_reducible refine (tree_Range.calls k _ _ t101 0 (t101.length : Int) t106 t107 _ ?side3 ?side1 ?side2 A4.out).mono ?_); (case side1 => repeat (first | exact (Kd.R_reads' HO103.out).2.2 | (with_reducible refine Kd.C_alloc ?_ _) | (with_reducible refine Kd.C_drewN ?_ _) | (with_reducible refine Kd.C_drew ?_))); (case side2 => exact (Kd.R_reads' HO103.out).2.1); (case side3 => exact gw_step hG_ (by repeat (first | (with_reducible first | exact HB.out | apply below_alloc | apply pw_below_drewN | apply below_drew1) | exact HB.out))); rintro e w9 ⟨rfl, hb⟩; refine ⟨_, rfl, ?_⟩; have n0_ := Aside0.mk (Kd.R_below (by (with_reducible repeat (first | apply Kd.R_alloc | apply Kd.R_drewN | apply Kd.R_drew)); exact HO103.out) hb); have n1_ := Aside0.mk (below_step (by repeat (first | (with_reducible first | exact HB.out | apply below_alloc | apply pw_below_drewN | apply below_drew1) | exact HB.out)) hb); clear HO103; clear HB; have HO103 := n0_; have HB := n1_; clear n0_ n1_; (try clear hb); (try clear hb2); (try clear hk); (try clear hi)))
 (try simp only [Act.put, List.setIfInBounds_toArray, List.set_cons_zero, List.set_cons_succ])
 go_cut [37] (fun v37 wc => ∃ (kq : Nat) (x37_4 : Bool), v37 = .bool x37_4 ∧ Aside0 (rubricklaw06_TreeWhole.j0 kq t101 t104 x37_4 = some true) ∧ Aside0 (kq ≤ k) ∧ Aside0 (Kd.R Kd.string 9 wc w.heap.size (fun _ => True) (.slice Ao7 t101.length co7) t101) ∧ Aside0 (Below w.heap.size w wc))
 case first =>
  have H := HC5.out
  clear HC5
  by_cases c10 : t105 = 0
  ·rw [if_pos c10] at H
   have c10b0 : (t105 == 0) = true := beq_iff_eq.mpr c10
   have c10b1 : (t105 != 0) = false := bne_eq_false_iff_eq.mpr c10
   clear c10
   (first | rw [c10b0] | (simp only [i64_w, i32_w]; rw [c10b0]) | skip)
   by_cases c11 : t107 = 0
   ·rw [if_pos c11] at H
    have c11b0 : (t107 == 0) = true := beq_iff_eq.mpr c11
    have c11b1 : (t107 != 0) = false := bne_eq_false_iff_eq.mpr c11
    clear c11
    have H' := Aside0.mk H
    clear H
    go_wp2
    go_meet
    case rel => exact ⟨_, ((t104.toList != t106.toList)), (by first | rfl | (simp; done) | (simp [*]; done)), H', ⟨by first | omega | exact Nat.le_refl _⟩, ⟨by (with_reducible repeat (first | apply Kd.R_alloc | apply Kd.R_drewN | apply Kd.R_drew)); exact HO103.out⟩, ⟨by repeat (first | (with_reducible first | exact HB.out | apply below_alloc | apply pw_below_drewN | apply below_drew1) | exact HB.out)⟩⟩
   ·rw [if_neg c11] at H
    have c11b0 : (t107 == 0) = false := beq_eq_false_iff_ne.mpr c11
    have c11b1 : (t107 != 0) = true := bne_iff_ne.mpr c11
    have H' := Aside0.mk H
    clear H
    go_wp2
    go_meet
    case rel => exact ⟨_, (true), (by first | rfl | (simp; done) | (simp [*]; done)), H', ⟨by first | omega | exact Nat.le_refl _⟩, ⟨by (with_reducible repeat (first | apply Kd.R_alloc | apply Kd.R_drewN | apply Kd.R_drew)); exact HO103.out⟩, ⟨by repeat (first | (with_reducible first | exact HB.out | apply below_alloc | apply pw_below_drewN | apply below_drew1) | exact HB.out)⟩⟩
  ·rw [if_neg c10] at H
   have c10b0 : (t105 == 0) = false := beq_eq_false_iff_ne.mpr c10
   have c10b1 : (t105 != 0) = true := bne_iff_ne.mpr c10
   (first | rw [c10b0] | (simp only [i64_w, i32_w]; rw [c10b0]) | skip)
   have H' := Aside0.mk H
   clear H
   go_wp2
   go_meet
   case rel => exact ⟨_, (true), (by first | rfl | (simp; done) | (simp [*]; done)), H', ⟨by first | omega | exact Nat.le_refl _⟩, ⟨by (with_reducible repeat (first | apply Kd.R_alloc | apply Kd.R_drewN | apply Kd.R_drew)); exact HO103.out⟩, ⟨by repeat (first | (with_reducible first | exact HB.out | apply below_alloc | apply pw_below_drewN | apply below_drew1) | exact HB.out)⟩⟩
 case rest =>
  clear HC5
  try clear c1
  try clear c2
  try clear p2
  try clear c9
  try clear c10
  try clear c10b0
  try clear c10b1
  try clear c11
  try clear c11b0
  try clear c11b1
  obtain ⟨kq, x37_4, rfl, HA, HJ4, HO_3, HB⟩ := hcut
  cases kq with
  | zero => exact absurd HA.out (by simp [rubricklaw06_TreeWhole.j0])
  | succ kj4 =>
   have H := HA.out
   clear HA
   simp only [rubricklaw06_TreeWhole.j0] at H
   by_cases c12 : x37_4 = true
   ·subst c12
    have H1 : (some false) = some true := by rw [if_pos rfl] at H; exact H
    clear H
    have H := H1
    clear H1
    cases H
   ·replace c12 := Bool.eq_false_iff.mpr c12
    subst c12
    have H1 : (rubricklaw06_TreeWhole.l0 kj4 t101 t104 0) = some true := by rw [if_neg (show ¬ (false = true) by decide)] at H; exact H
    clear H
    have H := H1
    clear H1
    have H' := Aside0.mk H
    clear H
    go_wp2
    go_loopg [8] kj4 (fun kq v8 w' => ∃ (x8_2 : Int), v8 = .int .i64 x8_2 ∧ Aside0 (rubricklaw06_TreeWhole.l0 kq t101 t104 x8_2 = some true) ∧ Aside0 (kq ≤ kj4) ∧ Aside0 (Kd.R Kd.string 9 w' w.heap.size (fun _ => True) (.slice Ao7 t101.length co7) t101) ∧ Aside0 (Below w.heap.size w w'))
    case atStart => exact ⟨(0), (by first | rfl | (simp; done) | (simp [*]; done)), H', ⟨Nat.le_refl _⟩, ⟨by (with_reducible repeat (first | apply Kd.R_alloc | apply Kd.R_drewN | apply Kd.R_drew)); exact HO_3.out⟩, ⟨by repeat (first | (with_reducible first | exact HB.out | apply below_alloc | apply pw_below_drewN | apply below_drew1) | exact HB.out)⟩⟩
    case round =>
     clear H'
     try clear c1
     try clear c2
     try clear p2
     try clear c9
     try clear c10
     try clear c10b0
     try clear c10b1
     try clear c11
     try clear c11b0
     try clear c11b1
     try clear c12
     try clear p2
     obtain ⟨x8_2, rfl, HA, HK2, HO_3, HB⟩ := hrel
     cases gk with
     | zero => exact absurd HA.out (by simp [rubricklaw06_TreeWhole.l0])
     | succ k2 =>
      have H := HA.out
      clear HA
      simp only [rubricklaw06_TreeWhole.l0] at H
      by_cases c13 : x8_2 < (t101.length : Int)
      ·rw [if_pos c13] at H
       have c13b0 : decide (x8_2 < (t101.length : Int)) = true := decide_eq_true c13
       clear c13
       replace H := Option.bind_eq_some_iff.mp H
       obtain ⟨⟨t108, t109⟩, A140, H⟩ := H
       replace H : (if 0 ≤ x8_2 then (if t108.toList = (rdOf ByteArray.empty t101 x8_2).toList then (if t109 = 0 then (rubricklaw06_TreeWhole.l0 k2 t101 t104 (wrap64 (x8_2 + 1))) else (some false)) else (some false)) else (none)) = some true := H
       have A14 := Aside0.mk A140
       clear A140
       by_cases c15 : 0 ≤ x8_2
       ·rw [if_pos c15] at H
        have c15b0 : decide (0 ≤ x8_2) = true := decide_eq_true c15
        clear c15
        by_cases c16 : t108.toList = (rdOf ByteArray.empty t101 x8_2).toList
        ·rw [if_pos c16] at H
         have c16b0 : (t108.toList == (rdOf ByteArray.empty t101 x8_2).toList) = true := beq_iff_eq.mpr c16
         have c16b1 : (t108.toList != (rdOf ByteArray.empty t101 x8_2).toList) = false := bne_eq_false_iff_eq.mpr c16
         clear c16
         by_cases c17 : t109 = 0
         ·rw [if_pos c17] at H
          have c17b0 : (t109 == 0) = true := beq_iff_eq.mpr c17
          have c17b1 : (t109 != 0) = false := bne_eq_false_iff_eq.mpr c17
          clear c17
          have H' := Aside0.mk H
          clear H
          go_wp2_with (first | ((with_reducible refine gate_callee (f := 24) rfl ?_); refine goesL_ (some 49) rfl rfl Tryd.func24 (by kernel_rfl) rfl #[.slice Ao7 t101.length co7, .int .i64 x8_2, .int .i64 (wrap64 (x8_2 + 1))] rfl (by (try simp only [List.map_toArray, List.map_cons, List.map_nil]); first | done | rfl | (simp only [List.length_drop, List.length_take]; rfl)) ?_; (with_reducible refine (tree_Range.calls k2 _ _ t101 x8_2 (wrap64 (x8_2 + 1)) t108 t109 _ ?side3 ?side1 ?side2 A14.out).mono ?_); (case side1 => repeat (first | exact (Kd.R_reads' HO_3.out).2.2 | (with_reducible refine Kd.C_alloc ?_ _) | (with_reducible refine Kd.C_drewN ?_ _) | (with_reducible refine Kd.C_drew ?_))); (case side2 => exact (Kd.R_reads' HO_3.out).2.1); (case side3 => exact gw_step hG_ (by repeat (first | (with_reducible first | exact HB.out | apply below_alloc | apply pw_below_drewN | apply below_drew1) | exact HB.out))); rintro e w18 ⟨rfl, hb⟩; refine ⟨_, rfl, ?_⟩; have n0_ := Aside0.mk (Kd.R_below (by (with_reducible repeat (first | apply Kd.R_alloc | apply Kd.R_drewN | apply Kd.R_drew)); exact HO_3.out) hb); have n1_ := Aside0.mk (below_step (by repeat (first | (with_reducible first | exact HB.out | apply below_alloc | apply pw_below_drewN | apply below_drew1) | exact HB.out)) hb); clear HO_3; clear HB; have HO_3 := n0_; have HB := n1_; clear n0_ n1_; (try clear hb); (try clear hb2); (try clear hk); (try clear hi); have p110 : 0 ≤ (x8_2 : Int) := of_decide_eq_true (by first | (with_reducible assumption) | assumption); have q110 : x8_2 < (t101.length : Int) := of_decide_eq_true (by first | (with_reducible assumption) | assumption); obtain ⟨ad110, e110, hx110_0⟩ := Kd.at_string (Kd.R_reads' HO_3.out).2.2 x8_2 p110 q110; cases e110; replace p110 := eq_true p110; replace q110 := eq_true q110))
          go_roundg k2
          case measure => have := HJ4.out; have := HK2.out; omega
          case rel => exact ⟨(wrap64 (x8_2 + 1)), (by first | rfl | (simp; done) | (simp [*]; done)), H', ⟨by have := HJ4.out; have := HK2.out; omega⟩, ⟨by (with_reducible repeat (first | apply Kd.R_alloc | apply Kd.R_drewN | apply Kd.R_drew)); exact HO_3.out⟩, ⟨by repeat (first | (with_reducible first | exact HB.out | apply below_alloc | apply pw_below_drewN | apply below_drew1) | exact HB.out)⟩⟩
         ·rw [if_neg c17] at H
          have c17b0 : (t109 == 0) = false := beq_eq_false_iff_ne.mpr c17
          have c17b1 : (t109 != 0) = true := bne_iff_ne.mpr c17
          cases H
        ·rw [if_neg c16] at H
         have c16b0 : (t108.toList == (rdOf ByteArray.empty t101 x8_2).toList) = false := beq_eq_false_iff_ne.mpr c16
         have c16b1 : (t108.toList != (rdOf ByteArray.empty t101 x8_2).toList) = true := bne_iff_ne.mpr c16
         cases H
       ·rw [if_neg c15] at H
        exact absurd H (by simp)
      ·rw [if_neg c13] at H
       have c13b0 : decide (x8_2 < (t101.length : Int)) = false := decide_eq_false c13
       clear c13
       by_cases c19 : (t101.length : Int) = 0
       ·rw [if_pos c19] at H
        have c19b0 : ((t101.length : Int) == 0) = true := beq_iff_eq.mpr c19
        have c19b1 : ((t101.length : Int) != 0) = false := bne_eq_false_iff_eq.mpr c19
        clear c19
        replace H := Option.bind_eq_some_iff.mp H
        obtain ⟨t111, A200, H⟩ := H
        replace H : (if t104.toList = t111.toList then ((rubricklaw06_knows.f k2).bind fun t112 => (some t112)) else (some false)) = some true := H
        have A20 := Aside0.mk A200
        clear A200
        by_cases c21 : t104.toList = t111.toList
        ·rw [if_pos c21] at H
         have c21b0 : (t104.toList == t111.toList) = true := beq_iff_eq.mpr c21
         have c21b1 : (t104.toList != t111.toList) = false := bne_eq_false_iff_eq.mpr c21
         clear c21
         replace H := Option.bind_eq_some_iff.mp H
         obtain ⟨t112, A220, H⟩ := H
         replace H : (some t112) = some true := H
         have A22 := Aside0.mk A220
         clear A220
         have HT2_ := Aside0.mk (Option.some.inj H)
         clear H
         go_wp2_with (first | ((with_reducible refine gate_callee (f := 29) rfl ?_); refine goesL_ (some 66) rfl rfl Tryd.func29 (by kernel_rfl) rfl #[.slice none 0 0] rfl (by (try simp only [List.map_toArray, List.map_cons, List.map_nil]); first | done | rfl | (simp only [List.length_drop, List.length_take]; rfl)) ?_; (refine (sha_Sum.calls _ _ ([] : List Int) t111 _ ?side3 ?side1 ?side2 A20.out).mono ?_); (case side1 => exact Kd.C_nil _ _); (case side2 => exact Nat.le_refl _); (case side3 => exact gw_step hG_ (by repeat (first | (with_reducible first | exact HB.out | apply below_alloc | apply pw_below_drewN | apply below_drew1) | exact HB.out))); rintro e w23 ⟨rfl, hb⟩; refine ⟨_, rfl, ?_⟩; have n0_ := Aside0.mk (Kd.R_below (by (with_reducible repeat (first | apply Kd.R_alloc | apply Kd.R_drewN | apply Kd.R_drew)); exact HO_3.out) hb); have n1_ := Aside0.mk (below_step (by repeat (first | (with_reducible first | exact HB.out | apply below_alloc | apply pw_below_drewN | apply below_drew1) | exact HB.out)) hb); clear HO_3; clear HB; have HO_3 := n0_; have HB := n1_; clear n0_ n1_; (try clear hb); (try clear hb2); (try clear hk); (try clear hi)) | (go_at_call 12; (with_reducible refine (rubricklaw06_knows.calls k2  t112 _ ?side1 A22.out).mono ?_); (case side1 => exact gw_step hG_ (by repeat (first | (with_reducible first | exact HB.out | apply below_alloc | apply pw_below_drewN | apply below_drew1) | exact HB.out))); rintro e w24 ⟨rfl, hb⟩; have n0_ := Aside0.mk (Kd.R_below (by (with_reducible repeat (first | apply Kd.R_alloc | apply Kd.R_drewN | apply Kd.R_drew)); exact HO_3.out) hb); have n1_ := Aside0.mk (below_step (by repeat (first | (with_reducible first | exact HB.out | apply below_alloc | apply pw_below_drewN | apply below_drew1) | exact HB.out)) hb); clear HO_3; clear HB; have HO_3 := n0_; have HB := n1_; clear n0_ n1_; (try clear hb); (try clear hb2); (try clear hk); (try clear hi)))
         go_ret
         exact ⟨by first | rfl | (simp [errW_none, errW_some] <;> rfl) | exact congrArg (fun b_ : Bool => Ending.returned (Value.bool b_)) HT2_.out | (simp [*, errW_none, errW_some] <;> rfl), by repeat (first | (with_reducible first | exact HB.out | apply below_alloc | apply pw_below_drewN | apply below_drew1) | exact HB.out)⟩
        ·rw [if_neg c21] at H
         have c21b0 : (t104.toList == t111.toList) = false := beq_eq_false_iff_ne.mpr c21
         have c21b1 : (t104.toList != t111.toList) = true := bne_iff_ne.mpr c21
         cases H
       ·rw [if_neg c19] at H
        have c19b0 : ((t101.length : Int) == 0) = false := beq_eq_false_iff_ne.mpr c19
        have c19b1 : ((t101.length : Int) != 0) = true := bne_iff_ne.mpr c19
        have c19b2 : ¬ (t101 = []) := fun h_ => c19 (by rw [h_]; rfl)
        replace H := Option.bind_eq_some_iff.mp H
        obtain ⟨⟨t113, t116⟩, A250, H⟩ := H
        replace H : (if t116 = 0 then ((rubrickref06_Steps.f k2 (wrap64 ((t101.length : Int) - 1)) (t101.length : Int)).bind fun t117 => (if (t113.length : Int) = t117 then ((rubricklaw06_knows.f k2).bind fun t118 => (some t118)) else (some false))) else (some false)) = some true := H
        have A25 := Aside0.mk A250
        clear A250
        by_cases c26 : t116 = 0
        ·rw [if_pos c26] at H
         have c26b0 : (t116 == 0) = true := beq_iff_eq.mpr c26
         have c26b1 : (t116 != 0) = false := bne_eq_false_iff_eq.mpr c26
         clear c26
         replace H := Option.bind_eq_some_iff.mp H
         obtain ⟨t117, A270, H⟩ := H
         replace H : (if (t113.length : Int) = t117 then ((rubricklaw06_knows.f k2).bind fun t118 => (some t118)) else (some false)) = some true := H
         have A27 := Aside0.mk A270
         clear A270
         by_cases c28 : (t113.length : Int) = t117
         ·rw [if_pos c28] at H
          have c28b0 : ((t113.length : Int) == t117) = true := beq_iff_eq.mpr c28
          have c28b1 : ((t113.length : Int) != t117) = false := bne_eq_false_iff_eq.mpr c28
          clear c28
          replace H := Option.bind_eq_some_iff.mp H
          obtain ⟨t118, A290, H⟩ := H
          replace H : (some t118) = some true := H
          have A29 := Aside0.mk A290
          clear A290
          have HT2_ := Aside0.mk (Option.some.inj H)
          clear H
          go_wp2_with (first | ((with_reducible refine gate_callee (f := 13) rfl ?_); refine goesL_ (some 76) rfl rfl Tryd.func13 (by kernel_rfl) rfl #[.slice Ao7 t101.length co7, .int .i64 (wrap64 ((t101.length : Int) - 1))] rfl (by (try simp only [List.map_toArray, List.map_cons, List.map_nil]); first | done | rfl | (simp only [List.length_drop, List.length_take]; rfl)) ?_; (with_reducible refine (tree_Path.calls k2 (fun k_ => some k_ = (.slice Ao7 t101.length co7 : Value).ownBlock) _ _ t101 (wrap64 ((t101.length : Int) - 1)) t113 t116 _ ?side2 ?side1 A25.out).mono ?_); (case side1 => exact Kd.R_V (Kd.R_tight rfl (HO_3.out))); (case side2 => exact gw_step hG_ (by repeat (first | (with_reducible first | exact HB.out | apply below_alloc | apply pw_below_drewN | apply below_drew1) | exact HB.out))); rintro e w30 ⟨v114, rfl, ho0, hb⟩; refine ⟨_, rfl, ?_⟩; have n0_ := Aside0.mk (Kd.R_elder' (by (with_reducible repeat (first | apply Kd.R_alloc | apply Kd.R_drewN | apply Kd.R_drew)); exact HO_3.out) (Kd.R_base ho0) hb); have n1_ := Aside0.mk (Kd.R_lower (Kd.R_new' (Kd.R_mono (ok' := fun k_ => True) ho0 (fun _ hk_ => trivial)) (Kd.R_lt (by (with_reducible repeat (first | apply Kd.R_alloc | apply Kd.R_drewN | apply Kd.R_drew)); exact HO_3.out))) (below_size (by repeat (first | (with_reducible first | exact HB.out | apply below_alloc | apply pw_below_drewN | apply below_drew1) | exact HB.out)))); have n2_ := Aside0.mk (below_step (by repeat (first | (with_reducible first | exact HB.out | apply below_alloc | apply pw_below_drewN | apply below_drew1) | exact HB.out)) hb); clear HO_3; clear HB; have HO_3 := n0_; have HO115 := n1_; have HB := n2_; clear n0_ n1_ n2_; (try clear hb); (try clear hb2); (try clear hk); (try clear hi); (try clear ho0); obtain ⟨Ao31, co31, eo31⟩ := Kd.R_slice HO115.out; subst eo31) | (go_at_call 18; (with_reducible refine (rubrickref06_Steps.calls k2 (wrap64 ((t101.length : Int) - 1)) (t101.length : Int) t117 _ A27.out).mono ?_); rintro e w' ⟨rfl, ⟨nd, rfl⟩⟩) | (go_at_call 12; (with_reducible refine (rubricklaw06_knows.calls k2  t118 _ ?side1 A29.out).mono ?_); (case side1 => exact gw_step hG_ (by repeat (first | (with_reducible first | exact HB.out | apply below_alloc | apply pw_below_drewN | apply below_drew1) | exact HB.out))); rintro e w32 ⟨rfl, hb⟩; have n0_ := Aside0.mk (Kd.R_below (by (with_reducible repeat (first | apply Kd.R_alloc | apply Kd.R_drewN | apply Kd.R_drew)); exact HO_3.out) hb); have n1_ := Aside0.mk (Kd.R_below (by (with_reducible repeat (first | apply Kd.R_alloc | apply Kd.R_drewN | apply Kd.R_drew)); exact HO115.out) hb); have n2_ := Aside0.mk (below_step (by repeat (first | (with_reducible first | exact HB.out | apply below_alloc | apply pw_below_drewN | apply below_drew1) | exact HB.out)) hb); clear HO_3; clear HO115; clear HB; have HO_3 := n0_; have HO115 := n1_; have HB := n2_; clear n0_ n1_ n2_; (try clear hb); (try clear hb2); (try clear hk); (try clear hi)))
          go_ret
          exact ⟨by first | rfl | (simp [errW_none, errW_some] <;> rfl) | exact congrArg (fun b_ : Bool => Ending.returned (Value.bool b_)) HT2_.out | (simp [*, errW_none, errW_some] <;> rfl), by repeat (first | (with_reducible first | exact HB.out | apply below_alloc | apply pw_below_drewN | apply below_drew1) | exact HB.out)⟩
         ·rw [if_neg c28] at H
          have c28b0 : ((t113.length : Int) == t117) = false := beq_eq_false_iff_ne.mpr c28
          have c28b1 : ((t113.length : Int) != t117) = true := bne_iff_ne.mpr c28
          cases H
        ·rw [if_neg c26] at H
         have c26b0 : (t116 == 0) = false := beq_eq_false_iff_ne.mpr c26
         have c26b1 : (t116 != 0) = true := bne_iff_ne.mpr c26
         cases H
end Go.Proofs.YtgcfhgkhokljcaaDoor.PTreeWhole

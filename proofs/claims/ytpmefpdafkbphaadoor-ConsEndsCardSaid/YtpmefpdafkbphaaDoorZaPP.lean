import Derived.Test.YtpmefpdafkbphaaDoorZaHBulk
import Derived.Test.YtpmefpdafkbphaaDoorProg
import Derived.Below
import Derived.Deep.Draws
import Derived.Deep.AppendLies
import Derived.Maps.AppendAt
import Derived.OwnWalk
import Derived.Laws.BytesArg
import Derived.Laws.MakeOwn
import Derived.Laws.OwnMore
import Derived.Deep.OwnRows
import Derived.Tactics
import Derived.Lib.ConvBytes
import Derived.Laws.Slices
import Derived.WalkKit
import Derived.KernelRfl
import Derived.RowKit3
import Derived.Deep.LoopGhost
import Derived.Deep.QuietTactic
import Derived.BigQuiet
import Derived.WideLaws
import Derived.Deep.DeepCutAuto
import Derived.Deep.CutBlock
import Derived.Deep.RegionHeld3
import Derived.Laws.Rows
import Derived.Lib.AppendStr
import Derived.ArgAppend
import Derived.Laws.IdiomCopy
import Derived.OrdersHeld
import Derived.Laws.BitsLemmas
import Derived.RowKit
import Derived.WalkMore
import Derived.Test.YtpmefpdafkbphaaDoorZaHShaD
import Derived.Test.YtpmefpdafkbphaaDoorZaPS
import Derived.Test.YtpmefpdafkbphaaDoorZaPR
import Derived.Test.YtpmefpdafkbphaaDoorZaPT
import Derived.Test.YtpmefpdafkbphaaDoorZaPB
import Derived.Test.YtpmefpdafkbphaaDoorZaHNode
import Derived.Test.YtpmefpdafkbphaaDoorZaPC
import Derived.Test.YtpmefpdafkbphaaDoorZaWWords
import Derived.Test.YtpmefpdafkbphaaDoorZaWLast
import Derived.Test.YtpmefpdafkbphaaDoorZaWTab
import Derived.Test.YtpmefpdafkbphaaDoorZaWApart
import Derived.Test.YtpmefpdafkbphaaDoorZaWFoot
import Derived.Test.YtpmefpdafkbphaaDoorZaWKept
import Derived.Test.YtpmefpdafkbphaaDoorZaWShare
import Derived.Test.YtpmefpdafkbphaaDoorZaWN
import Derived.Laws.StructEq
import Derived.Test.YtpmefpdafkbphaaDoorZaWRepsOne
import Derived.Test.YtpmefpdafkbphaaDoorZaWInv
import Derived.Test.YtpmefpdafkbphaaDoorZaWGuard
import Derived.Test.YtpmefpdafkbphaaDoorZaWNEv
import Derived.Test.YtpmefpdafkbphaaDoorZaWMore
-- PRINTED by print.py (a twelfth state) out of the translation. Not trusted: Lean checks it.
namespace Go.Proofs.YtpmefpdafkbphaaDoor.PP
open Go.RowKit Go.Proofs.YtpmefpdafkbphaaDoor Go.Proofs.YtpmefpdafkbphaaDoor.HSha Go.Proofs.YtpmefpdafkbphaaDoor.PS Go.Proofs.YtpmefpdafkbphaaDoor.PR Go.Proofs.YtpmefpdafkbphaaDoor.PT Go.Proofs.YtpmefpdafkbphaaDoor.PB Go.Proofs.YtpmefpdafkbphaaDoor.HNode Go.Proofs.YtpmefpdafkbphaaDoor.PC Go.Proofs.YtpmefpdafkbphaaDoorW.PrintWords Go.Proofs.YtpmefpdafkbphaaDoorW.PrintLast Go.Proofs.YtpmefpdafkbphaaDoorW.PrintMore
attribute [local go_sem] max2_int min2_int max_two min_two max_three min_three max_four min_four   -- for this text's walks alone
set_option linter.unusedVariables false
set_option linter.unusedSimpArgs false
def errW : Option Int → Value
 | none => .nilIface
 | some c => .iface 0 (.int .i64 c)
theorem errW_none : errW none = .nilIface := rfl
theorem errW_some (c : Int) : errW (some c) = .iface 0 (.int .i64 c) := rfl
theorem info9 : (Tryd.prog.info? 9).map (fun i => (i.zero, i.size, i.bytes)) = some (some (.string ⟨#[]⟩), 1, 16) := by kernel_rfl
-- the values' own types
end Go.Proofs.YtpmefpdafkbphaaDoor.PP
namespace Go.Proofs.YtpmefpdafkbphaaDoor.PP
open Go.RowKit Go.Proofs.YtpmefpdafkbphaaDoor Go.Proofs.YtpmefpdafkbphaaDoor.HSha Go.Proofs.YtpmefpdafkbphaaDoor.PS Go.Proofs.YtpmefpdafkbphaaDoor.PR Go.Proofs.YtpmefpdafkbphaaDoor.PT Go.Proofs.YtpmefpdafkbphaaDoor.PB Go.Proofs.YtpmefpdafkbphaaDoor.HNode Go.Proofs.YtpmefpdafkbphaaDoor.PC Go.Proofs.YtpmefpdafkbphaaDoorW.PrintWords Go.Proofs.YtpmefpdafkbphaaDoorW.PrintLast Go.Proofs.YtpmefpdafkbphaaDoorW.PrintMore
attribute [local go_sem] max2_int min2_int max_two min_two max_three min_three max_four min_four   -- for this text's walks alone
set_option linter.unusedVariables false
set_option linter.unusedSimpArgs false
/-! ### cons_all: function 47 -/
def cons_all.l0 : Nat → List ByteArray → Int → Int → Option (Bool)
 | 0, _, _, _ => none
 | k + 1, x5, x6, x7 => if x7 < x6 then (if 0 ≤ x7 then (if x7 < (x5.length : Int) then (if ((rdOf ByteArray.empty x5 x7).size : Int) = 32 then (cons_all.l0 k x5 x6 (wrap64 (x7 + 1))) else (some false)) else (none)) else (none)) else (some true)
def cons_all.f (k : Nat) (l0 : List ByteArray) : Option (Bool) := cons_all.l0 k l0 (l0.length : Int) 0
theorem cons_all.mono_l : ∀ k, (∀ y0 y1 y2, LeO (cons_all.l0 k y0 y1 y2) (cons_all.l0 (k + 1) y0 y1 y2))
 | 0 => fun _ _ _ r h => by simp [cons_all.l0] at h
 | k + 1 => by
  have ih0 := cons_all.mono_l k
  ·intro y0 y1 y2
   unfold cons_all.l0
   repeat' first
   | (with_reducible exact ih0 _ _ _)
   | (with_reducible exact LeO.refl _)
   | (with_reducible exact LeO.none _)
   | (with_reducible refine LeO.ite ?_ ?_)
   | (with_reducible refine LeO.bind ?_ (fun _ => ?_))
theorem cons_all.mono : ∀ a0 k, LeO (cons_all.f k a0) (cons_all.f (k + 1) a0) := by
 intro a0 k
 have ih0 := cons_all.mono_l k
 unfold cons_all.f
 repeat' first
   | (with_reducible exact ih0 _ _ _)
   | (with_reducible exact LeO.refl _)
   | (with_reducible exact LeO.none _)
   | (with_reducible refine LeO.ite ?_ ?_)
   | (with_reducible refine LeO.bind ?_ (fun _ => ?_))
set_option maxHeartbeats 8000000 in
set_option maxRecDepth 100000 in
theorem cons_all.calls (k : Nat) (A0 : Option Addr) (c0 : Nat) (l0 : List ByteArray) (r : Bool) (w : World) (hr0 : Kd.C Kd.string w A0 l0.length l0) (hc0 : l0.length ≤ c0) (h : cons_all.f k l0 = some r) :
  Calls Tryd.prog 47 #[.slice A0 l0.length c0] w fun e w' => e = .returned (.bool r) ∧ Drawn0 w w' := by
 have HR0 := Aside0.mk hr0
 have HC0 := Aside0.mk hc0
 clear hr0 hc0
 have H : (cons_all.l0 k l0 (l0.length : Int) 0) = some r := h
 clear h
 have H' := Aside0.mk H
 clear H
 go_enter Tryd.func47, Tryd.ntmps47
 go_wp2
 go_loopg [7] k (fun kq v7 w' => ∃ (x7_1 : Int), v7 = .int .i64 x7_1 ∧ Aside0 (cons_all.l0 kq l0 (l0.length : Int) x7_1 = some r) ∧ Aside0 (kq ≤ k) ∧ Drawn0 w w')
 case atStart => exact ⟨(0), (by first | rfl | (simp; done) | (simp [*]; done)), H', ⟨Nat.le_refl _⟩, by repeat (first | exact Drawn0.refl _ | apply Drawn0.step)⟩
 case round =>
  clear H'
  obtain ⟨x7_1, rfl, HA, HK1, ⟨m1, rfl⟩⟩ := hrel
  cases gk with
  | zero => exact absurd HA.out (by simp [cons_all.l0])
  | succ k1 =>
   have H := HA.out
   clear HA
   simp only [cons_all.l0] at H
   by_cases c2 : x7_1 < (l0.length : Int)
   ·rw [if_pos c2] at H
    have c2b0 : decide (x7_1 < (l0.length : Int)) = true := decide_eq_true c2
    clear c2
    by_cases c3 : 0 ≤ x7_1
    ·rw [if_pos c3] at H
     have c3b0 : decide (0 ≤ x7_1) = true := decide_eq_true c3
     clear c3
     by_cases c4 : x7_1 < (l0.length : Int)
     ·rw [if_pos c4] at H
      have c4b0 : decide (x7_1 < (l0.length : Int)) = true := decide_eq_true c4
      clear c4
      by_cases c5 : ((rdOf ByteArray.empty l0 x7_1).size : Int) = 32
      ·rw [if_pos c5] at H
       have c5b0 : (((rdOf ByteArray.empty l0 x7_1).size : Int) == 32) = true := beq_iff_eq.mpr c5
       have c5b1 : (((rdOf ByteArray.empty l0 x7_1).size : Int) != 32) = false := bne_eq_false_iff_eq.mpr c5
       clear c5
       have H' := Aside0.mk H
       clear H
       have p101 : 0 ≤ (x7_1 : Int) := of_decide_eq_true (by first | (with_reducible assumption) | assumption)
       have q101 : x7_1 < (l0.length : Int) := of_decide_eq_true (by first | (with_reducible assumption) | assumption)
       obtain ⟨ad101, e101, hx101_0⟩ := Kd.at_string HR0.out x7_1 p101 q101
       cases e101
       replace p101 := eq_true p101
       replace q101 := eq_true q101
       go_wp2
       go_roundg k1
       case measure => have := HK1.out; omega
       case rel => exact ⟨(wrap64 (x7_1 + 1)), (by first | rfl | (simp; done) | (simp [*]; done)), H', ⟨by have := HK1.out; omega⟩, by repeat (first | exact Drawn0.refl _ | apply Drawn0.step)⟩
      ·rw [if_neg c5] at H
       have c5b0 : (((rdOf ByteArray.empty l0 x7_1).size : Int) == 32) = false := beq_eq_false_iff_ne.mpr c5
       have c5b1 : (((rdOf ByteArray.empty l0 x7_1).size : Int) != 32) = true := bne_iff_ne.mpr c5
       obtain rfl := Option.some.inj H
       have p101 : 0 ≤ (x7_1 : Int) := of_decide_eq_true (by first | (with_reducible assumption) | assumption)
       have q101 : x7_1 < (l0.length : Int) := of_decide_eq_true (by first | (with_reducible assumption) | assumption)
       obtain ⟨ad101, e101, hx101_0⟩ := Kd.at_string HR0.out x7_1 p101 q101
       cases e101
       replace p101 := eq_true p101
       replace q101 := eq_true q101
       go_wp2
       go_ret
       exact ⟨by first | rfl | (simp; done) | (simp [*]; done), by repeat (first | exact Drawn0.refl _ | apply Drawn0.step)⟩
     ·rw [if_neg c4] at H
      exact absurd H (by simp)
    ·rw [if_neg c3] at H
     exact absurd H (by simp)
   ·rw [if_neg c2] at H
    have c2b0 : decide (x7_1 < (l0.length : Int)) = false := decide_eq_false c2
    clear c2
    obtain rfl := Option.some.inj H
    go_wp2
    go_ret
    exact ⟨by first | rfl | (simp; done) | (simp [*]; done), by repeat (first | exact Drawn0.refl _ | apply Drawn0.step)⟩
/-! ### cons_node: function 83 -/
def cons_node.f (k : Nat) (a0 : ByteArray) (a1 : ByteArray) : Option (ByteArray) := (seal_Node.f k a0 a1).bind fun bt102 => (some bt102.1)
theorem cons_node.mono : ∀ a0 a1 k, LeO (cons_node.f k a0 a1) (cons_node.f (k + 1) a0 a1) := by
 intro a0 a1 k
 unfold cons_node.f
 repeat' first
   | (with_reducible exact seal_Node.mono _ _ _)
   | (with_reducible exact LeO.refl _)
   | (with_reducible exact LeO.none _)
   | (with_reducible refine LeO.ite ?_ ?_)
   | (with_reducible refine LeO.bind ?_ (fun _ => ?_))
set_option maxHeartbeats 8000000 in
set_option maxRecDepth 100000 in
theorem cons_node.calls (k : Nat) (a0 : ByteArray) (a1 : ByteArray) (r : ByteArray) (w : World) (hG_ : Aside0 (GW w)) (h : cons_node.f k a0 a1 = some r) :
  Calls Tryd.prog 83 #[.string a0, .string a1] w fun e w' => e = .returned (.string r) ∧ Below w.heap.size w w' := by
 have HB := Aside0.mk (Below.refl w.heap.size w)
 have H : ((seal_Node.f k a0 a1).bind fun bt102 => (some bt102.1)) = some r := h
 clear h
 replace H := Option.bind_eq_some_iff.mp H
 obtain ⟨⟨t102, t103⟩, A30, H⟩ := H
 replace H : (some t102) = some r := H
 have A3 := Aside0.mk A30
 clear A30
 obtain rfl := Option.some.inj H
 go_enter Tryd.func83, Tryd.ntmps83
 go_wp2_with (first | ((with_reducible refine gate_callee (f := 88) rfl ?_); refine goesL_ (some 10) rfl rfl Tryd.func88 (by kernel_rfl) rfl #[.string a0, .string a1] rfl (by (try simp only [List.map_toArray, List.map_cons, List.map_nil]); first | done | rfl | (simp only [List.length_drop, List.length_take]; rfl)) ?_; (with_reducible refine (seal_Node.calls k a0 a1 t102 t103 _ ?side1 A3.out).mono ?_); (case side1 => exact gw_step hG_ (by repeat (first | (with_reducible first | exact HB.out | apply below_alloc | apply pw_below_drewN | apply below_drew1) | exact HB.out))); rintro e w4 ⟨rfl, hb⟩; refine ⟨_, rfl, ?_⟩; have n0_ := Aside0.mk (below_step (by repeat (first | (with_reducible first | exact HB.out | apply below_alloc | apply pw_below_drewN | apply below_drew1) | exact HB.out)) hb); clear HB; have HB := n0_; clear n0_; (try clear hb); (try clear hb2); (try clear hk); (try clear hi)))
 go_ret
 exact ⟨by first | rfl | (simp [errW_none, errW_some] <;> rfl) | (simp [*, errW_none, errW_some] <;> rfl), by repeat (first | (with_reducible first | exact HB.out | apply below_alloc | apply pw_below_drewN | apply below_drew1) | exact HB.out)⟩
/-! ### cons_climb: function 52 -/
mutual
def cons_climb.l0 : Nat → List ByteArray → Int → Int → Option (ByteArray × ByteArray × Bool)
 | 0, _, _, _ => none
 | k + 1, x2, x9, x10 => if (Go.bits .and .i64 x9 1) = 1 then (cons_climb.l0 k x2 (x9 / 2) (x10 / 2)) else (if 0 < (x2.length : Int) then (if 1 ≤ (x2.length : Int) then (cons_climb.l1 k x9 x10 (rdOf ByteArray.empty x2 0) (rdOf ByteArray.empty x2 0) (x2.drop 1) ((x2.drop 1).length : Int) 0) else (none)) else (none))
def cons_climb.l1 : Nat → Int → Int → ByteArray → ByteArray → List ByteArray → Int → Int → Option (ByteArray × ByteArray × Bool)
 | 0, _, _, _, _, _, _, _ => none
 | k + 1, x9, x10, x11, x12, x33, x34, x35 => if x35 < x34 then (if 0 ≤ x35 then (if x35 < (x33.length : Int) then (if x10 = 0 then (some ((⟨#[]⟩ : ByteArray), (⟨#[]⟩ : ByteArray), false)) else (if (Go.bits .and .i64 x9 1) = 1 then (cons_climb.j2 k x9 x10 x11 x12 (rdOf ByteArray.empty x33 x35) x33 x34 x35 true) else (cons_climb.j2 k x9 x10 x11 x12 (rdOf ByteArray.empty x33 x35) x33 x34 x35 (x9 == x10)))) else (none)) else (none)) else (some (x11, x12, (x10 == 0)))
def cons_climb.j2 : Nat → Int → Int → ByteArray → ByteArray → ByteArray → List ByteArray → Int → Int → Bool → Option (ByteArray × ByteArray × Bool)
 | 0, _, _, _, _, _, _, _, _, _ => none
 | k + 1, x9, x10, x11, x12, x14, x33, x34, x35, x48 => if x48 = true then ((cons_node.f k x14 x11).bind fun t108 => ((cons_node.f k x14 x12).bind fun t109 => (cons_climb.l2 k x9 x10 t108 t109 x33 x34 x35))) else ((cons_node.f k x12 x14).bind fun t110 => (cons_climb.l1 k (x9 / 2) (x10 / 2) x11 t110 x33 x34 (wrap64 (x35 + 1))))
def cons_climb.l2 : Nat → Int → Int → ByteArray → ByteArray → List ByteArray → Int → Int → Option (ByteArray × ByteArray × Bool)
 | 0, _, _, _, _, _, _, _ => none
 | k + 1, x9, x10, x11, x12, x33, x34, x35 => if (Go.bits .and .i64 x9 1) = 0 then (if x9 = 0 then (cons_climb.l1 k (x9 / 2) (x10 / 2) x11 x12 x33 x34 (wrap64 (x35 + 1))) else (cons_climb.l2 k (x9 / 2) (x10 / 2) x11 x12 x33 x34 x35)) else (cons_climb.l1 k (x9 / 2) (x10 / 2) x11 x12 x33 x34 (wrap64 (x35 + 1)))
end
def cons_climb.f (k : Nat) (a0 : Int) (a1 : Int) (l2 : List ByteArray) : Option (ByteArray × ByteArray × Bool) := cons_climb.l0 k l2 (wrap64 (a0 - 1)) (wrap64 (a1 - 1))
theorem cons_climb.mono_l : ∀ k, (∀ y0 y1 y2, LeO (cons_climb.l0 k y0 y1 y2) (cons_climb.l0 (k + 1) y0 y1 y2)) ∧ (∀ y0 y1 y2 y3 y4 y5 y6, LeO (cons_climb.l1 k y0 y1 y2 y3 y4 y5 y6) (cons_climb.l1 (k + 1) y0 y1 y2 y3 y4 y5 y6)) ∧ (∀ y0 y1 y2 y3 y4 y5 y6 y7 y8, LeO (cons_climb.j2 k y0 y1 y2 y3 y4 y5 y6 y7 y8) (cons_climb.j2 (k + 1) y0 y1 y2 y3 y4 y5 y6 y7 y8)) ∧ (∀ y0 y1 y2 y3 y4 y5 y6, LeO (cons_climb.l2 k y0 y1 y2 y3 y4 y5 y6) (cons_climb.l2 (k + 1) y0 y1 y2 y3 y4 y5 y6))
 | 0 => ⟨fun _ _ _ r h => by simp [cons_climb.l0] at h, fun _ _ _ _ _ _ _ r h => by simp [cons_climb.l1] at h, fun _ _ _ _ _ _ _ _ _ r h => by simp [cons_climb.j2] at h, fun _ _ _ _ _ _ _ r h => by simp [cons_climb.l2] at h⟩
 | k + 1 => by
  obtain ⟨ih0, ih1, ih2, ih3⟩ := cons_climb.mono_l k
  refine ⟨?_, ?_, ?_, ?_⟩
  ·intro y0 y1 y2
   unfold cons_climb.l0
   repeat' first
   | (with_reducible exact ih0 _ _ _)
   | (with_reducible exact ih1 _ _ _ _ _ _ _)
   | (with_reducible exact ih2 _ _ _ _ _ _ _ _ _)
   | (with_reducible exact ih3 _ _ _ _ _ _ _)
   | (with_reducible exact cons_node.mono _ _ _)
   | (with_reducible exact LeO.refl _)
   | (with_reducible exact LeO.none _)
   | (with_reducible refine LeO.ite ?_ ?_)
   | (with_reducible refine LeO.bind ?_ (fun _ => ?_))
  ·intro y0 y1 y2 y3 y4 y5 y6
   unfold cons_climb.l1
   repeat' first
   | (with_reducible exact ih0 _ _ _)
   | (with_reducible exact ih1 _ _ _ _ _ _ _)
   | (with_reducible exact ih2 _ _ _ _ _ _ _ _ _)
   | (with_reducible exact ih3 _ _ _ _ _ _ _)
   | (with_reducible exact cons_node.mono _ _ _)
   | (with_reducible exact LeO.refl _)
   | (with_reducible exact LeO.none _)
   | (with_reducible refine LeO.ite ?_ ?_)
   | (with_reducible refine LeO.bind ?_ (fun _ => ?_))
  ·intro y0 y1 y2 y3 y4 y5 y6 y7 y8
   unfold cons_climb.j2
   repeat' first
   | (with_reducible exact ih0 _ _ _)
   | (with_reducible exact ih1 _ _ _ _ _ _ _)
   | (with_reducible exact ih2 _ _ _ _ _ _ _ _ _)
   | (with_reducible exact ih3 _ _ _ _ _ _ _)
   | (with_reducible exact cons_node.mono _ _ _)
   | (with_reducible exact LeO.refl _)
   | (with_reducible exact LeO.none _)
   | (with_reducible refine LeO.ite ?_ ?_)
   | (with_reducible refine LeO.bind ?_ (fun _ => ?_))
  ·intro y0 y1 y2 y3 y4 y5 y6
   unfold cons_climb.l2
   repeat' first
   | (with_reducible exact ih0 _ _ _)
   | (with_reducible exact ih1 _ _ _ _ _ _ _)
   | (with_reducible exact ih2 _ _ _ _ _ _ _ _ _)
   | (with_reducible exact ih3 _ _ _ _ _ _ _)
   | (with_reducible exact cons_node.mono _ _ _)
   | (with_reducible exact LeO.refl _)
   | (with_reducible exact LeO.none _)
   | (with_reducible refine LeO.ite ?_ ?_)
   | (with_reducible refine LeO.bind ?_ (fun _ => ?_))
theorem cons_climb.mono : ∀ a0 a1 a2 k, LeO (cons_climb.f k a0 a1 a2) (cons_climb.f (k + 1) a0 a1 a2) := by
 intro a0 a1 a2 k
 obtain ⟨ih0, ih1, ih2, ih3⟩ := cons_climb.mono_l k
 unfold cons_climb.f
 repeat' first
   | (with_reducible exact ih0 _ _ _)
   | (with_reducible exact ih1 _ _ _ _ _ _ _)
   | (with_reducible exact ih2 _ _ _ _ _ _ _ _ _)
   | (with_reducible exact ih3 _ _ _ _ _ _ _)
   | (with_reducible exact cons_node.mono _ _ _)
   | (with_reducible exact LeO.refl _)
   | (with_reducible exact LeO.none _)
   | (with_reducible refine LeO.ite ?_ ?_)
   | (with_reducible refine LeO.bind ?_ (fun _ => ?_))
attribute [-simp] List.drop_one
set_option maxHeartbeats 8000000 in
set_option maxRecDepth 100000 in
theorem cons_climb.calls (k : Nat) (a0 : Int) (a1 : Int) (A2 : Option Addr) (c2 : Nat) (l2 : List ByteArray) (r1 : ByteArray) (r2 : ByteArray) (r3 : Bool) (w : World) (hG_ : Aside0 (GW w)) (hr2 : Kd.C Kd.string w A2 l2.length l2) (hc2 : l2.length ≤ c2) (h : cons_climb.f k a0 a1 l2 = some (r1, r2, r3)) :
  Calls Tryd.prog 52 #[.int .i64 a0, .int .i64 a1, .slice A2 l2.length c2] w fun e w' => e = .returned (.tuple #[.string r1, .string r2, .bool r3]) ∧ Below w.heap.size w w' := by
 have HR2 := Aside0.mk hr2
 have HC2 := Aside0.mk hc2
 clear hr2 hc2
 have HB := Aside0.mk (Below.refl w.heap.size w)
 have H : (cons_climb.l0 k l2 (wrap64 (a0 - 1)) (wrap64 (a1 - 1))) = some (r1, r2, r3) := h
 clear h
 have H' := Aside0.mk H
 clear H
 go_enter Tryd.func52, Tryd.ntmps52
 go_wp2
 repeat (go_quiet (fail); try go_wp2)
 repeat (go_step3; try go_wp2_with (fail); repeat (go_quiet (fail); try go_wp2_with (fail)))
 go_loopg [9, 10] k (fun kq v9 v10 w' => ∃ (x9_1 : Int) (x10_1 : Int), v9 = .int .i64 x9_1 ∧ v10 = .int .i64 x10_1 ∧ Aside0 (cons_climb.l0 kq l2 x9_1 x10_1 = some (r1, r2, r3)) ∧ Aside0 (kq ≤ k) ∧ Aside0 (Below w.heap.size w w'))
 case atStart => exact ⟨(wrap64 (a0 - 1)), (wrap64 (a1 - 1)), (by first | rfl | (simp; done) | (simp [*]; done)), (by first | rfl | (simp; done) | (simp [*]; done)), H', ⟨Nat.le_refl _⟩, ⟨by repeat (first | (with_reducible first | exact HB.out | apply below_alloc | apply pw_below_drewN | apply below_drew1) | exact HB.out)⟩⟩
 case round =>
  clear H'
  try clear c2
  try clear p2
  try clear p3
  obtain ⟨x9_1, x10_1, rfl, rfl, HA, HK1, HB⟩ := hrel
  cases gk with
  | zero => exact absurd HA.out (by simp [cons_climb.l0])
  | succ k1 =>
   have H := HA.out
   clear HA
   simp only [cons_climb.l0] at H
   by_cases c4 : (Go.bits .and .i64 x9_1 1) = 1
   ·rw [if_pos c4] at H
    have c4b0 : ((Go.bits .and .i64 x9_1 1) == 1) = true := beq_iff_eq.mpr c4
    have c4b1 : ((Go.bits .and .i64 x9_1 1) != 1) = false := bne_eq_false_iff_eq.mpr c4
    clear c4
    have H' := Aside0.mk H
    clear H
    go_wp2
    repeat (go_quiet (fail); try go_wp2)
    repeat (go_step3; try go_wp2_with (fail); repeat (go_quiet (fail); try go_wp2_with (fail)))
    go_roundg k1
    case measure => have := HK1.out; omega
    case rel => exact ⟨(x9_1 / 2), (x10_1 / 2), (by first | rfl | (simp; done) | (simp [*]; done)), (by first | rfl | (simp; done) | (simp [*]; done)), H', ⟨by have := HK1.out; omega⟩, ⟨by repeat (first | (with_reducible first | exact HB.out | apply below_alloc | apply pw_below_drewN | apply below_drew1) | exact HB.out)⟩⟩
   ·rw [if_neg c4] at H
    have c4b0 : ((Go.bits .and .i64 x9_1 1) == 1) = false := beq_eq_false_iff_ne.mpr c4
    have c4b1 : ((Go.bits .and .i64 x9_1 1) != 1) = true := bne_iff_ne.mpr c4
    by_cases c5 : 0 < (l2.length : Int)
    ·rw [if_pos c5] at H
     have c5b0 : decide (0 < (l2.length : Int)) = true := decide_eq_true c5
     have c5b1 : decide (0 < l2.length) = true := decide_eq_true (by omega)
     clear c5
     by_cases c6 : 1 ≤ (l2.length : Int)
     ·rw [if_pos c6] at H
      have c6b0 := eq_true c6
      have c6b1 : decide (1 ≤ (l2.length : Int)) = true := decide_eq_true c6
      clear c6
      have H' := Aside0.mk H
      clear H
      have p104 : 0 ≤ (0 : Int) := (by omega)
      have q104 : 0 < (l2.length : Int) := of_decide_eq_true (by first | (with_reducible assumption) | assumption)
      obtain ⟨ad104, e104, hx104_0⟩ := Kd.at_string HR2.out 0 p104 q104
      cases e104
      have qi104 : (0 < l2.length) = True := eq_true (by omega)
      (try rw [show ((0 : Int)).toNat = 0 from rfl] at hx104_0)
      (try rw [Addr.add_zero'] at hx104_0)
      replace hx104_0 := (HB.out.cell (World.block_lt_of_cell? w _ hx104_0)).trans hx104_0
      replace p104 := eq_true p104
      replace q104 := eq_true q104
      have p105 : 0 ≤ (0 : Int) := (by omega)
      have q105 : 0 < (l2.length : Int) := of_decide_eq_true (by first | (with_reducible assumption) | assumption)
      obtain ⟨ad105, e105, hx105_0⟩ := Kd.at_string HR2.out 0 p105 q105
      obtain rfl : ad104 = ad105 := (by injection e105)
      have qi105 : (0 < l2.length) = True := eq_true (by omega)
      (try rw [show ((0 : Int)).toNat = 0 from rfl] at hx105_0)
      (try rw [Addr.add_zero'] at hx105_0)
      replace hx105_0 := (HB.out.cell (World.block_lt_of_cell? w _ hx105_0)).trans hx105_0
      replace p105 := eq_true p105
      replace q105 := eq_true q105
      obtain ⟨i07, hi07, _, hsz7, _⟩ := info_parts info9
      obtain ⟨A7, hcut7, hA7, hC7⟩ := print_drop_of (P := Tryd.prog) Value.string (⟨#[]⟩ : ByteArray) 22 9 .i64 Tryd.underlying22 hi07 hsz7 (some ad104) c2 l2 1 (by omega) (of_decide_eq_true (by first | (with_reducible assumption) | assumption)) HC2.out
      have HR106 := Aside0.mk (Kd.C_of_reads (h1 := fun _ => rfl) (hA7 _ (Kd.reads_of_C HR2.out)))
      have HC106 := Aside0.mk hC7
      clear hA7 hC7 hi07 hsz7
      go_wp2
      repeat (go_quiet (fail); try go_wp2)
      repeat (go_step3; try go_wp2_with (fail); repeat (go_quiet (fail); try go_wp2_with (fail)))
      go_loopg [9, 10, 11, 12, 35] k1 (fun kq v9 v10 v11 v12 v35 w' => ∃ (x9_2 : Int) (x10_2 : Int) (x11_2 : ByteArray) (x12_2 : ByteArray) (x35_2 : Int), v9 = .int .i64 x9_2 ∧ v10 = .int .i64 x10_2 ∧ v11 = .string x11_2 ∧ v12 = .string x12_2 ∧ v35 = .int .i64 x35_2 ∧ Aside0 (cons_climb.l1 kq x9_2 x10_2 x11_2 x12_2 (l2.drop 1) ((l2.drop 1).length : Int) x35_2 = some (r1, r2, r3)) ∧ Aside0 (kq ≤ k1) ∧ Aside0 (Below w.heap.size w w'))
      case atStart => exact ⟨(x9_1), (x10_1), (rdOf ByteArray.empty l2 0), (rdOf ByteArray.empty l2 0), (0), (by first | rfl | (simp; done) | (simp [*]; done)), (by first | rfl | (simp; done) | (simp [*]; done)), (by first | rfl | (simp; done) | (simp [*]; done)), (by first | rfl | (simp; done) | (simp [*]; done)), (by first | rfl | (simp; done) | (simp [*]; done)), H', ⟨Nat.le_refl _⟩, ⟨by repeat (first | (with_reducible first | exact HB.out | apply below_alloc | apply pw_below_drewN | apply below_drew1) | exact HB.out)⟩⟩
      case round =>
       clear H'
       try clear p1
       try clear q1
       try clear hx1
       try clear qi1
       try clear c2
       try clear p2
       try clear p3
       try clear c4
       try clear c4b0
       try clear c4b1
       try clear c5
       try clear c5b0
       try clear c5b1
       try clear c6
       try clear c6b0
       try clear c6b1
       try clear p6
       try clear hx104_0
       try clear hx105_0
       try clear p104
       try clear p105
       try clear p2
       try clear p3
       try clear q104
       try clear q105
       obtain ⟨x9_2, x10_2, x11_2, x12_2, x35_2, rfl, rfl, rfl, rfl, rfl, HA, HK2, HB⟩ := hrel
       cases gk with
       | zero => exact absurd HA.out (by simp [cons_climb.l1])
       | succ k2 =>
        have H := HA.out
        clear HA
        simp only [cons_climb.l1] at H
        by_cases c8 : x35_2 < ((l2.drop 1).length : Int)
        ·rw [if_pos c8] at H
         have c8b0 : decide (x35_2 < ((l2.drop 1).length : Int)) = true := decide_eq_true c8
         (try (have c8b0d : decide (x35_2 < ((l2.length - 1 : Nat) : Int)) = true := by simpa only [List.length_drop] using c8b0))
         clear c8
         by_cases c9 : 0 ≤ x35_2
         ·rw [if_pos c9] at H
          have c9b0 : decide (0 ≤ x35_2) = true := decide_eq_true c9
          clear c9
          by_cases c10 : x35_2 < ((l2.drop 1).length : Int)
          ·rw [if_pos c10] at H
           have c10b0 : decide (x35_2 < ((l2.drop 1).length : Int)) = true := decide_eq_true c10
           (try (have c10b0d : decide (x35_2 < ((l2.length - 1 : Nat) : Int)) = true := by simpa only [List.length_drop] using c10b0))
           clear c10
           by_cases c11 : x10_2 = 0
           ·rw [if_pos c11] at H
            have c11b0 : (x10_2 == 0) = true := beq_iff_eq.mpr c11
            have c11b1 : (x10_2 != 0) = false := bne_eq_false_iff_eq.mpr c11
            clear c11
            simp only [Option.some.injEq, Prod.mk.injEq] at H
            obtain ⟨rfl, rfl, rfl⟩ := H
            have p107 : 0 ≤ (x35_2 : Int) := of_decide_eq_true (by first | (with_reducible assumption) | assumption)
            have q107 : x35_2 < ((l2.drop 1).length : Int) := of_decide_eq_true (by first | (with_reducible assumption) | assumption)
            have q107d : x35_2 < ((l2.length - 1 : Nat) : Int) := by have h_ := q107; rwa [List.length_drop] at h_
            replace q107d := eq_true q107d
            obtain ⟨ad107, e107, hx107_0⟩ := Kd.at_string HR106.out x35_2 p107 q107
            cases e107
            replace hx107_0 := (HB.out.cell (World.block_lt_of_cell? w _ hx107_0)).trans hx107_0
            replace p107 := eq_true p107
            replace q107 := eq_true q107
            go_wp2
            repeat (go_quiet (fail); try go_wp2)
            repeat (go_step3; try go_wp2_with (fail); repeat (go_quiet (fail); try go_wp2_with (fail)))
            try rw [Exit.noGoto_ret]
            go_ret3
            exact ⟨by first | rfl | (simp [errW_none, errW_some] <;> rfl) | (simp [*, errW_none, errW_some] <;> rfl), by repeat (first | (with_reducible first | exact HB.out | apply below_alloc | apply pw_below_drewN | apply below_drew1) | exact HB.out)⟩
           ·rw [if_neg c11] at H
            have c11b0 : (x10_2 == 0) = false := beq_eq_false_iff_ne.mpr c11
            have c11b1 : (x10_2 != 0) = true := bne_iff_ne.mpr c11
            have HC12 := Aside0.mk H
            clear H
            have p107 : 0 ≤ (x35_2 : Int) := of_decide_eq_true (by first | (with_reducible assumption) | assumption)
            have q107 : x35_2 < ((l2.drop 1).length : Int) := of_decide_eq_true (by first | (with_reducible assumption) | assumption)
            have q107d : x35_2 < ((l2.length - 1 : Nat) : Int) := by have h_ := q107; rwa [List.length_drop] at h_
            replace q107d := eq_true q107d
            obtain ⟨ad107, e107, hx107_0⟩ := Kd.at_string HR106.out x35_2 p107 q107
            cases e107
            replace hx107_0 := (HB.out.cell (World.block_lt_of_cell? w _ hx107_0)).trans hx107_0
            replace p107 := eq_true p107
            replace q107 := eq_true q107
            go_upto_region 12 with (fail)
            repeat (go_quiet (fail); go_upto_region 12 with (fail))
            go_cut [48] (fun v48 wc => ∃ (kq : Nat) (x48_11 : Bool), v48 = .bool x48_11 ∧ Aside0 (cons_climb.j2 kq x9_2 x10_2 x11_2 x12_2 (rdOf ByteArray.empty (l2.drop 1) x35_2) (l2.drop 1) ((l2.drop 1).length : Int) x35_2 x48_11 = some (r1, r2, r3)) ∧ Aside0 (kq ≤ k2) ∧ Aside0 (Below w.heap.size w wc))
            case first =>
             have H := HC12.out
             clear HC12
             by_cases c13 : (Go.bits .and .i64 x9_2 1) = 1
             ·rw [if_pos c13] at H
              have c13b0 : ((Go.bits .and .i64 x9_2 1) == 1) = true := beq_iff_eq.mpr c13
              have c13b1 : ((Go.bits .and .i64 x9_2 1) != 1) = false := bne_eq_false_iff_eq.mpr c13
              clear c13
              (first | rw [c13b0] | (simp only [i64_w, i32_w]; rw [c13b0]) | skip)
              have H' := Aside0.mk H
              clear H
              go_wp2
              repeat (go_quiet (fail); try go_wp2)
              repeat (go_step3; try go_wp2_with (fail); repeat (go_quiet (fail); try go_wp2_with (fail)))
              go_meet
              case rel => exact ⟨_, (true), (by first | rfl | (simp; done) | (simp [*]; done)), H', ⟨by have := HK1.out; have := HK2.out; first | omega | exact Nat.le_refl _⟩, ⟨by repeat (first | (with_reducible first | exact HB.out | apply below_alloc | apply pw_below_drewN | apply below_drew1) | exact HB.out)⟩⟩
             ·rw [if_neg c13] at H
              have c13b0 : ((Go.bits .and .i64 x9_2 1) == 1) = false := beq_eq_false_iff_ne.mpr c13
              have c13b1 : ((Go.bits .and .i64 x9_2 1) != 1) = true := bne_iff_ne.mpr c13
              (first | rw [c13b0] | (simp only [i64_w, i32_w]; rw [c13b0]) | skip)
              have H' := Aside0.mk H
              clear H
              go_wp2
              repeat (go_quiet (fail); try go_wp2)
              repeat (go_step3; try go_wp2_with (fail); repeat (go_quiet (fail); try go_wp2_with (fail)))
              go_meet
              case rel => exact ⟨_, ((x9_2 == x10_2)), (by first | rfl | (simp; done) | (simp [*]; done)), H', ⟨by have := HK1.out; have := HK2.out; first | omega | exact Nat.le_refl _⟩, ⟨by repeat (first | (with_reducible first | exact HB.out | apply below_alloc | apply pw_below_drewN | apply below_drew1) | exact HB.out)⟩⟩
            case rest =>
             clear HC12
             try clear c1
             try clear p1
             try clear q1
             try clear hx1
             try clear qi1
             try clear c2
             try clear p2
             try clear p3
             try clear c4
             try clear c4b0
             try clear c4b1
             try clear c5
             try clear c5b0
             try clear c5b1
             try clear c6
             try clear c6b0
             try clear c6b1
             try clear p6
             try clear c8
             try clear c8b0
             try clear c9
             try clear c9b0
             try clear c10
             try clear c10b0
             try clear p10
             try clear q10
             try clear hx10
             try clear qi10
             try clear c11
             try clear c11b0
             try clear c11b1
             try clear c13
             try clear c13b0
             try clear c13b1
             try clear hx104_0
             try clear hx105_0
             try clear hx107_0
             try clear p1
             try clear p104
             try clear p105
             try clear p107
             try clear p2
             try clear p3
             try clear p6
             try clear q1
             try clear q104
             try clear q105
             try clear q107
             obtain ⟨kq, x48_11, rfl, HA, HJ11, HB⟩ := hcut
             cases kq with
             | zero => exact absurd HA.out (by simp [cons_climb.j2])
             | succ kj11 =>
              have H := HA.out
              clear HA
              simp only [cons_climb.j2] at H
              by_cases c14 : x48_11 = true
              ·subst c14
               have H1 : ((cons_node.f kj11 (rdOf ByteArray.empty (l2.drop 1) x35_2) x11_2).bind fun t108 => ((cons_node.f kj11 (rdOf ByteArray.empty (l2.drop 1) x35_2) x12_2).bind fun t109 => (cons_climb.l2 kj11 x9_2 x10_2 t108 t109 (l2.drop 1) ((l2.drop 1).length : Int) x35_2))) = some (r1, r2, r3) := by rw [if_pos rfl] at H; exact H
               clear H
               have H := H1
               clear H1
               replace H := Option.bind_eq_some_iff.mp H
               obtain ⟨t108, A150, H⟩ := H
               replace H : ((cons_node.f kj11 (rdOf ByteArray.empty (l2.drop 1) x35_2) x12_2).bind fun t109 => (cons_climb.l2 kj11 x9_2 x10_2 t108 t109 (l2.drop 1) ((l2.drop 1).length : Int) x35_2)) = some (r1, r2, r3) := H
               have A15 := Aside0.mk A150
               clear A150
               replace H := Option.bind_eq_some_iff.mp H
               obtain ⟨t109, A160, H⟩ := H
               replace H : (cons_climb.l2 kj11 x9_2 x10_2 t108 t109 (l2.drop 1) ((l2.drop 1).length : Int) x35_2) = some (r1, r2, r3) := H
               have A16 := Aside0.mk A160
               clear A160
               have H' := Aside0.mk H
               clear H
               go_wp2_with (first | (go_at_call 83; (with_reducible refine (cons_node.calls kj11 (rdOf ByteArray.empty (l2.drop 1) x35_2) x11_2 t108 _ ?side1 A15.out).mono ?_); (case side1 => exact gw_step hG_ (by repeat (first | (with_reducible first | exact HB.out | apply below_alloc | apply pw_below_drewN | apply below_drew1) | exact HB.out))); rintro e w17 ⟨rfl, hb⟩; have n0_ := Aside0.mk (below_step (by repeat (first | (with_reducible first | exact HB.out | apply below_alloc | apply pw_below_drewN | apply below_drew1) | exact HB.out)) hb); clear HB; have HB := n0_; clear n0_; (try clear hb); (try clear hb2); (try clear hk); (try clear hi)) | (go_at_call 83; (with_reducible refine (cons_node.calls kj11 (rdOf ByteArray.empty (l2.drop 1) x35_2) x12_2 t109 _ ?side1 A16.out).mono ?_); (case side1 => exact gw_step hG_ (by repeat (first | (with_reducible first | exact HB.out | apply below_alloc | apply pw_below_drewN | apply below_drew1) | exact HB.out))); rintro e w18 ⟨rfl, hb⟩; have n0_ := Aside0.mk (below_step (by repeat (first | (with_reducible first | exact HB.out | apply below_alloc | apply pw_below_drewN | apply below_drew1) | exact HB.out)) hb); clear HB; have HB := n0_; clear n0_; (try clear hb); (try clear hb2); (try clear hk); (try clear hi)))
               repeat (go_quiet (first | (go_at_call 83; (with_reducible refine (cons_node.calls kj11 (rdOf ByteArray.empty (l2.drop 1) x35_2) x11_2 t108 _ ?side1 A15.out).mono ?_); (case side1 => exact gw_step hG_ (by repeat (first | (with_reducible first | exact HB.out | apply below_alloc | apply pw_below_drewN | apply below_drew1) | exact HB.out))); rintro e w17 ⟨rfl, hb⟩; have n0_ := Aside0.mk (below_step (by repeat (first | (with_reducible first | exact HB.out | apply below_alloc | apply pw_below_drewN | apply below_drew1) | exact HB.out)) hb); clear HB; have HB := n0_; clear n0_; (try clear hb); (try clear hb2); (try clear hk); (try clear hi)) | (go_at_call 83; (with_reducible refine (cons_node.calls kj11 (rdOf ByteArray.empty (l2.drop 1) x35_2) x12_2 t109 _ ?side1 A16.out).mono ?_); (case side1 => exact gw_step hG_ (by repeat (first | (with_reducible first | exact HB.out | apply below_alloc | apply pw_below_drewN | apply below_drew1) | exact HB.out))); rintro e w18 ⟨rfl, hb⟩; have n0_ := Aside0.mk (below_step (by repeat (first | (with_reducible first | exact HB.out | apply below_alloc | apply pw_below_drewN | apply below_drew1) | exact HB.out)) hb); clear HB; have HB := n0_; clear n0_; (try clear hb); (try clear hb2); (try clear hk); (try clear hi))); try go_wp2_with (first | (go_at_call 83; (with_reducible refine (cons_node.calls kj11 (rdOf ByteArray.empty (l2.drop 1) x35_2) x11_2 t108 _ ?side1 A15.out).mono ?_); (case side1 => exact gw_step hG_ (by repeat (first | (with_reducible first | exact HB.out | apply below_alloc | apply pw_below_drewN | apply below_drew1) | exact HB.out))); rintro e w17 ⟨rfl, hb⟩; have n0_ := Aside0.mk (below_step (by repeat (first | (with_reducible first | exact HB.out | apply below_alloc | apply pw_below_drewN | apply below_drew1) | exact HB.out)) hb); clear HB; have HB := n0_; clear n0_; (try clear hb); (try clear hb2); (try clear hk); (try clear hi)) | (go_at_call 83; (with_reducible refine (cons_node.calls kj11 (rdOf ByteArray.empty (l2.drop 1) x35_2) x12_2 t109 _ ?side1 A16.out).mono ?_); (case side1 => exact gw_step hG_ (by repeat (first | (with_reducible first | exact HB.out | apply below_alloc | apply pw_below_drewN | apply below_drew1) | exact HB.out))); rintro e w18 ⟨rfl, hb⟩; have n0_ := Aside0.mk (below_step (by repeat (first | (with_reducible first | exact HB.out | apply below_alloc | apply pw_below_drewN | apply below_drew1) | exact HB.out)) hb); clear HB; have HB := n0_; clear n0_; (try clear hb); (try clear hb2); (try clear hk); (try clear hi))))
               repeat (go_step3; try go_wp2_with (first | (go_at_call 83; (with_reducible refine (cons_node.calls kj11 (rdOf ByteArray.empty (l2.drop 1) x35_2) x11_2 t108 _ ?side1 A15.out).mono ?_); (case side1 => exact gw_step hG_ (by repeat (first | (with_reducible first | exact HB.out | apply below_alloc | apply pw_below_drewN | apply below_drew1) | exact HB.out))); rintro e w17 ⟨rfl, hb⟩; have n0_ := Aside0.mk (below_step (by repeat (first | (with_reducible first | exact HB.out | apply below_alloc | apply pw_below_drewN | apply below_drew1) | exact HB.out)) hb); clear HB; have HB := n0_; clear n0_; (try clear hb); (try clear hb2); (try clear hk); (try clear hi)) | (go_at_call 83; (with_reducible refine (cons_node.calls kj11 (rdOf ByteArray.empty (l2.drop 1) x35_2) x12_2 t109 _ ?side1 A16.out).mono ?_); (case side1 => exact gw_step hG_ (by repeat (first | (with_reducible first | exact HB.out | apply below_alloc | apply pw_below_drewN | apply below_drew1) | exact HB.out))); rintro e w18 ⟨rfl, hb⟩; have n0_ := Aside0.mk (below_step (by repeat (first | (with_reducible first | exact HB.out | apply below_alloc | apply pw_below_drewN | apply below_drew1) | exact HB.out)) hb); clear HB; have HB := n0_; clear n0_; (try clear hb); (try clear hb2); (try clear hk); (try clear hi))); repeat (go_quiet (first | (go_at_call 83; (with_reducible refine (cons_node.calls kj11 (rdOf ByteArray.empty (l2.drop 1) x35_2) x11_2 t108 _ ?side1 A15.out).mono ?_); (case side1 => exact gw_step hG_ (by repeat (first | (with_reducible first | exact HB.out | apply below_alloc | apply pw_below_drewN | apply below_drew1) | exact HB.out))); rintro e w17 ⟨rfl, hb⟩; have n0_ := Aside0.mk (below_step (by repeat (first | (with_reducible first | exact HB.out | apply below_alloc | apply pw_below_drewN | apply below_drew1) | exact HB.out)) hb); clear HB; have HB := n0_; clear n0_; (try clear hb); (try clear hb2); (try clear hk); (try clear hi)) | (go_at_call 83; (with_reducible refine (cons_node.calls kj11 (rdOf ByteArray.empty (l2.drop 1) x35_2) x12_2 t109 _ ?side1 A16.out).mono ?_); (case side1 => exact gw_step hG_ (by repeat (first | (with_reducible first | exact HB.out | apply below_alloc | apply pw_below_drewN | apply below_drew1) | exact HB.out))); rintro e w18 ⟨rfl, hb⟩; have n0_ := Aside0.mk (below_step (by repeat (first | (with_reducible first | exact HB.out | apply below_alloc | apply pw_below_drewN | apply below_drew1) | exact HB.out)) hb); clear HB; have HB := n0_; clear n0_; (try clear hb); (try clear hb2); (try clear hk); (try clear hi))); try go_wp2_with (first | (go_at_call 83; (with_reducible refine (cons_node.calls kj11 (rdOf ByteArray.empty (l2.drop 1) x35_2) x11_2 t108 _ ?side1 A15.out).mono ?_); (case side1 => exact gw_step hG_ (by repeat (first | (with_reducible first | exact HB.out | apply below_alloc | apply pw_below_drewN | apply below_drew1) | exact HB.out))); rintro e w17 ⟨rfl, hb⟩; have n0_ := Aside0.mk (below_step (by repeat (first | (with_reducible first | exact HB.out | apply below_alloc | apply pw_below_drewN | apply below_drew1) | exact HB.out)) hb); clear HB; have HB := n0_; clear n0_; (try clear hb); (try clear hb2); (try clear hk); (try clear hi)) | (go_at_call 83; (with_reducible refine (cons_node.calls kj11 (rdOf ByteArray.empty (l2.drop 1) x35_2) x12_2 t109 _ ?side1 A16.out).mono ?_); (case side1 => exact gw_step hG_ (by repeat (first | (with_reducible first | exact HB.out | apply below_alloc | apply pw_below_drewN | apply below_drew1) | exact HB.out))); rintro e w18 ⟨rfl, hb⟩; have n0_ := Aside0.mk (below_step (by repeat (first | (with_reducible first | exact HB.out | apply below_alloc | apply pw_below_drewN | apply below_drew1) | exact HB.out)) hb); clear HB; have HB := n0_; clear n0_; (try clear hb); (try clear hb2); (try clear hk); (try clear hi)))))
               go_loopg [9, 10] kj11 (fun kq v9 v10 w' => ∃ (x9_4 : Int) (x10_4 : Int), v9 = .int .i64 x9_4 ∧ v10 = .int .i64 x10_4 ∧ Aside0 (cons_climb.l2 kq x9_4 x10_4 t108 t109 (l2.drop 1) ((l2.drop 1).length : Int) x35_2 = some (r1, r2, r3)) ∧ Aside0 (kq ≤ kj11) ∧ Aside0 (Below w.heap.size w w'))
               case atStart => exact ⟨(x9_2), (x10_2), (by first | rfl | (simp; done) | (simp [*]; done)), (by first | rfl | (simp; done) | (simp [*]; done)), H', ⟨Nat.le_refl _⟩, ⟨by repeat (first | (with_reducible first | exact HB.out | apply below_alloc | apply pw_below_drewN | apply below_drew1) | exact HB.out)⟩⟩
               case round =>
                clear H'
                try clear c1
                try clear p1
                try clear q1
                try clear hx1
                try clear qi1
                try clear c2
                try clear p2
                try clear p3
                try clear c4
                try clear c4b0
                try clear c4b1
                try clear c5
                try clear c5b0
                try clear c5b1
                try clear c6
                try clear c6b0
                try clear c6b1
                try clear p6
                try clear c8
                try clear c8b0
                try clear c9
                try clear c9b0
                try clear c10
                try clear c10b0
                try clear p10
                try clear q10
                try clear hx10
                try clear qi10
                try clear c11
                try clear c11b0
                try clear c11b1
                try clear c13
                try clear c13b0
                try clear c13b1
                try clear c14
                try clear hx104_0
                try clear hx105_0
                try clear hx107_0
                try clear p1
                try clear p10
                try clear p104
                try clear p105
                try clear p107
                try clear p2
                try clear p3
                try clear p6
                try clear q1
                try clear q10
                try clear q104
                try clear q105
                try clear q107
                obtain ⟨x9_4, x10_4, rfl, rfl, HA, HK4, HB⟩ := hrel
                cases gk with
                | zero => exact absurd HA.out (by simp [cons_climb.l2])
                | succ k4 =>
                 have H := HA.out
                 clear HA
                 simp only [cons_climb.l2] at H
                 by_cases c19 : (Go.bits .and .i64 x9_4 1) = 0
                 ·rw [if_pos c19] at H
                  have c19b0 : ((Go.bits .and .i64 x9_4 1) == 0) = true := beq_iff_eq.mpr c19
                  have c19b1 : ((Go.bits .and .i64 x9_4 1) != 0) = false := bne_eq_false_iff_eq.mpr c19
                  clear c19
                  by_cases c20 : x9_4 = 0
                  ·rw [if_pos c20] at H
                   have c20b0 : (x9_4 == 0) = true := beq_iff_eq.mpr c20
                   have c20b1 : (x9_4 != 0) = false := bne_eq_false_iff_eq.mpr c20
                   clear c20
                   have H' := Aside0.mk H
                   clear H
                   go_wp2
                   repeat (go_quiet (fail); try go_wp2)
                   repeat (go_step3; try go_wp2_with (fail); repeat (go_quiet (fail); try go_wp2_with (fail)))
                   go_roundg k4
                   case measure => have := HK1.out; have := HK2.out; have := HJ11.out; have := HK4.out; omega
                   case rel => exact ⟨(x9_4 / 2), (x10_4 / 2), (t108), (t109), (wrap64 (x35_2 + 1)), (by first | rfl | (simp; done) | (simp [*]; done)), (by first | rfl | (simp; done) | (simp [*]; done)), (by first | rfl | (simp; done) | (simp [*]; done)), (by first | rfl | (simp; done) | (simp [*]; done)), (by first | rfl | (simp; done) | (simp [*]; done)), H', ⟨by have := HK1.out; have := HK2.out; have := HJ11.out; have := HK4.out; omega⟩, ⟨by repeat (first | (with_reducible first | exact HB.out | apply below_alloc | apply pw_below_drewN | apply below_drew1) | exact HB.out)⟩⟩
                  ·rw [if_neg c20] at H
                   have c20b0 : (x9_4 == 0) = false := beq_eq_false_iff_ne.mpr c20
                   have c20b1 : (x9_4 != 0) = true := bne_iff_ne.mpr c20
                   have H' := Aside0.mk H
                   clear H
                   go_wp2
                   repeat (go_quiet (fail); try go_wp2)
                   repeat (go_step3; try go_wp2_with (fail); repeat (go_quiet (fail); try go_wp2_with (fail)))
                   go_roundg k4
                   case measure => have := HK1.out; have := HK2.out; have := HJ11.out; have := HK4.out; omega
                   case rel => exact ⟨(x9_4 / 2), (x10_4 / 2), (by first | rfl | (simp; done) | (simp [*]; done)), (by first | rfl | (simp; done) | (simp [*]; done)), H', ⟨by have := HK1.out; have := HK2.out; have := HJ11.out; have := HK4.out; omega⟩, ⟨by repeat (first | (with_reducible first | exact HB.out | apply below_alloc | apply pw_below_drewN | apply below_drew1) | exact HB.out)⟩⟩
                 ·rw [if_neg c19] at H
                  have c19b0 : ((Go.bits .and .i64 x9_4 1) == 0) = false := beq_eq_false_iff_ne.mpr c19
                  have c19b1 : ((Go.bits .and .i64 x9_4 1) != 0) = true := bne_iff_ne.mpr c19
                  have H' := Aside0.mk H
                  clear H
                  go_wp2
                  repeat (go_quiet (fail); try go_wp2)
                  repeat (go_step3; try go_wp2_with (fail); repeat (go_quiet (fail); try go_wp2_with (fail)))
                  go_roundg k4
                  case measure => have := HK1.out; have := HK2.out; have := HJ11.out; have := HK4.out; omega
                  case rel => exact ⟨(x9_4 / 2), (x10_4 / 2), (t108), (t109), (wrap64 (x35_2 + 1)), (by first | rfl | (simp; done) | (simp [*]; done)), (by first | rfl | (simp; done) | (simp [*]; done)), (by first | rfl | (simp; done) | (simp [*]; done)), (by first | rfl | (simp; done) | (simp [*]; done)), (by first | rfl | (simp; done) | (simp [*]; done)), H', ⟨by have := HK1.out; have := HK2.out; have := HJ11.out; have := HK4.out; omega⟩, ⟨by repeat (first | (with_reducible first | exact HB.out | apply below_alloc | apply pw_below_drewN | apply below_drew1) | exact HB.out)⟩⟩
              ·replace c14 := Bool.eq_false_iff.mpr c14
               subst c14
               have H1 : ((cons_node.f kj11 x12_2 (rdOf ByteArray.empty (l2.drop 1) x35_2)).bind fun t110 => (cons_climb.l1 kj11 (x9_2 / 2) (x10_2 / 2) x11_2 t110 (l2.drop 1) ((l2.drop 1).length : Int) (wrap64 (x35_2 + 1)))) = some (r1, r2, r3) := by rw [if_neg (show ¬ (false = true) by decide)] at H; exact H
               clear H
               have H := H1
               clear H1
               replace H := Option.bind_eq_some_iff.mp H
               obtain ⟨t110, A210, H⟩ := H
               replace H : (cons_climb.l1 kj11 (x9_2 / 2) (x10_2 / 2) x11_2 t110 (l2.drop 1) ((l2.drop 1).length : Int) (wrap64 (x35_2 + 1))) = some (r1, r2, r3) := H
               have A21 := Aside0.mk A210
               clear A210
               have H' := Aside0.mk H
               clear H
               go_wp2_with (first | (go_at_call 83; (with_reducible refine (cons_node.calls kj11 x12_2 (rdOf ByteArray.empty (l2.drop 1) x35_2) t110 _ ?side1 A21.out).mono ?_); (case side1 => exact gw_step hG_ (by repeat (first | (with_reducible first | exact HB.out | apply below_alloc | apply pw_below_drewN | apply below_drew1) | exact HB.out))); rintro e w22 ⟨rfl, hb⟩; have n0_ := Aside0.mk (below_step (by repeat (first | (with_reducible first | exact HB.out | apply below_alloc | apply pw_below_drewN | apply below_drew1) | exact HB.out)) hb); clear HB; have HB := n0_; clear n0_; (try clear hb); (try clear hb2); (try clear hk); (try clear hi)))
               repeat (go_quiet (first | (go_at_call 83; (with_reducible refine (cons_node.calls kj11 x12_2 (rdOf ByteArray.empty (l2.drop 1) x35_2) t110 _ ?side1 A21.out).mono ?_); (case side1 => exact gw_step hG_ (by repeat (first | (with_reducible first | exact HB.out | apply below_alloc | apply pw_below_drewN | apply below_drew1) | exact HB.out))); rintro e w22 ⟨rfl, hb⟩; have n0_ := Aside0.mk (below_step (by repeat (first | (with_reducible first | exact HB.out | apply below_alloc | apply pw_below_drewN | apply below_drew1) | exact HB.out)) hb); clear HB; have HB := n0_; clear n0_; (try clear hb); (try clear hb2); (try clear hk); (try clear hi))); try go_wp2_with (first | (go_at_call 83; (with_reducible refine (cons_node.calls kj11 x12_2 (rdOf ByteArray.empty (l2.drop 1) x35_2) t110 _ ?side1 A21.out).mono ?_); (case side1 => exact gw_step hG_ (by repeat (first | (with_reducible first | exact HB.out | apply below_alloc | apply pw_below_drewN | apply below_drew1) | exact HB.out))); rintro e w22 ⟨rfl, hb⟩; have n0_ := Aside0.mk (below_step (by repeat (first | (with_reducible first | exact HB.out | apply below_alloc | apply pw_below_drewN | apply below_drew1) | exact HB.out)) hb); clear HB; have HB := n0_; clear n0_; (try clear hb); (try clear hb2); (try clear hk); (try clear hi))))
               repeat (go_step3; try go_wp2_with (first | (go_at_call 83; (with_reducible refine (cons_node.calls kj11 x12_2 (rdOf ByteArray.empty (l2.drop 1) x35_2) t110 _ ?side1 A21.out).mono ?_); (case side1 => exact gw_step hG_ (by repeat (first | (with_reducible first | exact HB.out | apply below_alloc | apply pw_below_drewN | apply below_drew1) | exact HB.out))); rintro e w22 ⟨rfl, hb⟩; have n0_ := Aside0.mk (below_step (by repeat (first | (with_reducible first | exact HB.out | apply below_alloc | apply pw_below_drewN | apply below_drew1) | exact HB.out)) hb); clear HB; have HB := n0_; clear n0_; (try clear hb); (try clear hb2); (try clear hk); (try clear hi))); repeat (go_quiet (first | (go_at_call 83; (with_reducible refine (cons_node.calls kj11 x12_2 (rdOf ByteArray.empty (l2.drop 1) x35_2) t110 _ ?side1 A21.out).mono ?_); (case side1 => exact gw_step hG_ (by repeat (first | (with_reducible first | exact HB.out | apply below_alloc | apply pw_below_drewN | apply below_drew1) | exact HB.out))); rintro e w22 ⟨rfl, hb⟩; have n0_ := Aside0.mk (below_step (by repeat (first | (with_reducible first | exact HB.out | apply below_alloc | apply pw_below_drewN | apply below_drew1) | exact HB.out)) hb); clear HB; have HB := n0_; clear n0_; (try clear hb); (try clear hb2); (try clear hk); (try clear hi))); try go_wp2_with (first | (go_at_call 83; (with_reducible refine (cons_node.calls kj11 x12_2 (rdOf ByteArray.empty (l2.drop 1) x35_2) t110 _ ?side1 A21.out).mono ?_); (case side1 => exact gw_step hG_ (by repeat (first | (with_reducible first | exact HB.out | apply below_alloc | apply pw_below_drewN | apply below_drew1) | exact HB.out))); rintro e w22 ⟨rfl, hb⟩; have n0_ := Aside0.mk (below_step (by repeat (first | (with_reducible first | exact HB.out | apply below_alloc | apply pw_below_drewN | apply below_drew1) | exact HB.out)) hb); clear HB; have HB := n0_; clear n0_; (try clear hb); (try clear hb2); (try clear hk); (try clear hi)))))
               go_roundg kj11
               case measure => have := HK1.out; have := HK2.out; have := HJ11.out; omega
               case rel => exact ⟨(x9_2 / 2), (x10_2 / 2), (x11_2), (t110), (wrap64 (x35_2 + 1)), (by first | rfl | (simp; done) | (simp [*]; done)), (by first | rfl | (simp; done) | (simp [*]; done)), (by first | rfl | (simp; done) | (simp [*]; done)), (by first | rfl | (simp; done) | (simp [*]; done)), (by first | rfl | (simp; done) | (simp [*]; done)), H', ⟨by have := HK1.out; have := HK2.out; have := HJ11.out; omega⟩, ⟨by repeat (first | (with_reducible first | exact HB.out | apply below_alloc | apply pw_below_drewN | apply below_drew1) | exact HB.out)⟩⟩
          ·rw [if_neg c10] at H
           exact absurd H (by simp)
         ·rw [if_neg c9] at H
          exact absurd H (by simp)
        ·rw [if_neg c8] at H
         have c8b0 : decide (x35_2 < ((l2.drop 1).length : Int)) = false := decide_eq_false c8
         (try (have c8b0d : decide (x35_2 < ((l2.length - 1 : Nat) : Int)) = false := by simpa only [List.length_drop] using c8b0))
         clear c8
         simp only [Option.some.injEq, Prod.mk.injEq] at H
         obtain ⟨rfl, rfl, rfl⟩ := H
         go_wp2
         repeat (go_quiet (fail); try go_wp2)
         repeat (go_step3; try go_wp2_with (fail); repeat (go_quiet (fail); try go_wp2_with (fail)))
         try rw [Exit.noGoto_ret]
         go_ret3
         exact ⟨by first | rfl | (simp [errW_none, errW_some] <;> rfl) | (simp [*, errW_none, errW_some] <;> rfl), by repeat (first | (with_reducible first | exact HB.out | apply below_alloc | apply pw_below_drewN | apply below_drew1) | exact HB.out)⟩
     ·rw [if_neg c6] at H
      exact absurd H (by simp)
    ·rw [if_neg c5] at H
     exact absurd H (by simp)
end Go.Proofs.YtpmefpdafkbphaaDoor.PP
namespace Go.Proofs.YtpmefpdafkbphaaDoor.PP
open Go.RowKit Go.Proofs.YtpmefpdafkbphaaDoor Go.Proofs.YtpmefpdafkbphaaDoor.HSha Go.Proofs.YtpmefpdafkbphaaDoor.PS Go.Proofs.YtpmefpdafkbphaaDoor.PR Go.Proofs.YtpmefpdafkbphaaDoor.PT Go.Proofs.YtpmefpdafkbphaaDoor.PB Go.Proofs.YtpmefpdafkbphaaDoor.HNode Go.Proofs.YtpmefpdafkbphaaDoor.PC Go.Proofs.YtpmefpdafkbphaaDoorW.PrintWords Go.Proofs.YtpmefpdafkbphaaDoorW.PrintLast Go.Proofs.YtpmefpdafkbphaaDoorW.PrintMore
attribute [local go_sem] max2_int min2_int max_two min_two max_three min_three max_four min_four   -- for this text's walks alone
set_option linter.unusedVariables false
set_option linter.unusedSimpArgs false
/-! ### cons_Check: function 20 -/
mutual
def cons_Check.j0 : Nat → Int → Int → ByteArray → ByteArray → List ByteArray → Bool → Option (Int)
 | 0, _, _, _, _, _, _ => none
 | k + 1, x0, x1, x2, x3, x4, x32 => if x32 = true then (some 1) else ((cons_all.f k x4).bind fun t115 => (if t115 = true then (if x0 = 0 then (if (x4.length : Int) = 0 then ((sha_Sum.f ([] : List Int)).bind fun t116 => (if x2.toList = t116.toList then (some 0) else (some 6))) else (some 6)) else (if x0 = x1 then (if (x4.length : Int) = 0 then (if x2.toList = x3.toList then (some 0) else (some 6)) else (some 6)) else (if (Go.bits .and .i64 x0 (wrap64 (x0 - 1))) = 0 then ((some (([x2] : List ByteArray) : List ByteArray)).bind fun y117 => (if y117.length + x4.length < 8796093022208 then (cons_Check.j1 k x0 x1 x2 x3 (y117 ++ x4)) else (none))) else (cons_Check.j1 k x0 x1 x2 x3 x4)))) else (some 6)))
def cons_Check.j1 : Nat → Int → Int → ByteArray → ByteArray → List ByteArray → Option (Int)
 | 0, _, _, _, _, _ => none
 | k + 1, x0, x1, x2, x3, x4 => if (x4.length : Int) = 0 then (some 6) else ((cons_climb.f k x0 x1 x4).bind fun bt123 => (if bt123.2.2 = true then (if bt123.1.toList = x2.toList then (if bt123.2.1.toList = x3.toList then (some 0) else (some 6)) else (some 6)) else (some 6)))
end
def cons_Check.f (k : Nat) (a0 : Int) (a1 : Int) (a2 : ByteArray) (a3 : ByteArray) (l4 : List ByteArray) : Option (Int) := if a0 < 0 then (cons_Check.j0 k a0 a1 a2 a3 l4 true) else (if a1 < a0 then (cons_Check.j0 k a0 a1 a2 a3 l4 true) else (if a1 > 1099511627776 then (cons_Check.j0 k a0 a1 a2 a3 l4 true) else ((cons_all.f k (([a2, a3] : List ByteArray))).bind fun t114 => (cons_Check.j0 k a0 a1 a2 a3 l4 (!t114)))))
theorem cons_Check.mono_l : ∀ k, (∀ y0 y1 y2 y3 y4 y5, LeO (cons_Check.j0 k y0 y1 y2 y3 y4 y5) (cons_Check.j0 (k + 1) y0 y1 y2 y3 y4 y5)) ∧ (∀ y0 y1 y2 y3 y4, LeO (cons_Check.j1 k y0 y1 y2 y3 y4) (cons_Check.j1 (k + 1) y0 y1 y2 y3 y4))
 | 0 => ⟨fun _ _ _ _ _ _ r h => by simp [cons_Check.j0] at h, fun _ _ _ _ _ r h => by simp [cons_Check.j1] at h⟩
 | k + 1 => by
  obtain ⟨ih0, ih1⟩ := cons_Check.mono_l k
  refine ⟨?_, ?_⟩
  ·intro y0 y1 y2 y3 y4 y5
   unfold cons_Check.j0
   repeat' first
   | (with_reducible exact ih0 _ _ _ _ _ _)
   | (with_reducible exact ih1 _ _ _ _ _)
   | (with_reducible exact cons_all.mono _ _)
   | (with_reducible exact cons_climb.mono _ _ _ _)
   | (with_reducible exact LeO.refl _)
   | (with_reducible exact LeO.none _)
   | (with_reducible refine LeO.ite ?_ ?_)
   | (with_reducible refine LeO.bind ?_ (fun _ => ?_))
  ·intro y0 y1 y2 y3 y4
   unfold cons_Check.j1
   repeat' first
   | (with_reducible exact ih0 _ _ _ _ _ _)
   | (with_reducible exact ih1 _ _ _ _ _)
   | (with_reducible exact cons_all.mono _ _)
   | (with_reducible exact cons_climb.mono _ _ _ _)
   | (with_reducible exact LeO.refl _)
   | (with_reducible exact LeO.none _)
   | (with_reducible refine LeO.ite ?_ ?_)
   | (with_reducible refine LeO.bind ?_ (fun _ => ?_))
theorem cons_Check.mono : ∀ a0 a1 a2 a3 a4 k, LeO (cons_Check.f k a0 a1 a2 a3 a4) (cons_Check.f (k + 1) a0 a1 a2 a3 a4) := by
 intro a0 a1 a2 a3 a4 k
 obtain ⟨ih0, ih1⟩ := cons_Check.mono_l k
 unfold cons_Check.f
 repeat' first
   | (with_reducible exact ih0 _ _ _ _ _ _)
   | (with_reducible exact ih1 _ _ _ _ _)
   | (with_reducible exact cons_all.mono _ _)
   | (with_reducible exact cons_climb.mono _ _ _ _)
   | (with_reducible exact LeO.refl _)
   | (with_reducible exact LeO.none _)
   | (with_reducible refine LeO.ite ?_ ?_)
   | (with_reducible refine LeO.bind ?_ (fun _ => ?_))
end Go.Proofs.YtpmefpdafkbphaaDoor.PP
namespace Go.Proofs.YtpmefpdafkbphaaDoor.PP
open Go.RowKit Go.Proofs.YtpmefpdafkbphaaDoor Go.Proofs.YtpmefpdafkbphaaDoor.HSha Go.Proofs.YtpmefpdafkbphaaDoor.PS Go.Proofs.YtpmefpdafkbphaaDoor.PR Go.Proofs.YtpmefpdafkbphaaDoor.PT Go.Proofs.YtpmefpdafkbphaaDoor.PB Go.Proofs.YtpmefpdafkbphaaDoor.HNode Go.Proofs.YtpmefpdafkbphaaDoor.PC Go.Proofs.YtpmefpdafkbphaaDoorW.PrintWords Go.Proofs.YtpmefpdafkbphaaDoorW.PrintLast Go.Proofs.YtpmefpdafkbphaaDoorW.PrintMore
attribute [local go_sem] max2_int min2_int max_two min_two max_three min_three max_four min_four   -- for this text's walks alone
set_option linter.unusedVariables false
set_option linter.unusedSimpArgs false
/-! ### rubrickref07_part: function 50 -/
def rubrickref07_part.f : Nat → List ByteArray → Int → Bool → Option (List ByteArray)
 | 0, _, _, _ => none
 | k + 1, l0, a1, a2 => if a1 = (l0.length : Int) then (if a2 = true then (some ([] : List ByteArray)) else ((rubrickref06_Root.f k l0).bind fun t126 => (some (([t126] : List ByteArray))))) else ((rubrickref06_Split.f k (l0.length : Int)).bind fun t130 => (if a1 ≤ t130 then (if 0 ≤ t130 then (if t130 ≤ (l0.length : Int) then ((rubrickref07_part.f k (l0.take (t130 : Int).toNat) a1 a2).bind fun t132 => ((rubrickref06_Root.f k (l0.drop (t130 : Int).toNat)).bind fun t136 => (if t132.length < 8796093022208 then (some (t132 ++ [t136])) else (none)))) else (none)) else (none)) else (if 0 ≤ t130 then (if t130 ≤ (l0.length : Int) then ((rubrickref07_part.f k (l0.drop (t130 : Int).toNat) (wrap64 (a1 - t130)) false).bind fun t141 => ((rubrickref06_Root.f k (l0.take (t130 : Int).toNat)).bind fun t145 => (if t141.length < 8796093022208 then (some (t141 ++ [t145])) else (none)))) else (none)) else (none))))
def rubrickref07_part.T7 : Bool × List (List Nat × List Nat) := (true, [([], []), ([], []), ([0, 1], [0, 1]), ([], []), ([], []), ([2, 3, 4], [2, 3, 4]), ([], []), ([], []), ([6, 7], [6, 7]), ([8, 5], [8]), ([9], [9]), ([5, 10, 9], [5, 10]), ([11, 11, 0, 1, 2, 3, 4, 5, 6, 7, 8, 9, 10, 11], [11])])
def rubrickref07_part.B7 : List Nat := [0, 0, 3, 0, 0, 31, 0, 0, 192, 511, 1023, 2047, 4095]
theorem rubrickref07_part.tab7 : rtab .any (opsOf Tryd.f50 7) = rubrickref07_part.T7 := by kernel_rfl
theorem rubrickref07_part.bits7 : waitsOk rubrickref07_part.T7.2 rubrickref07_part.B7 = true := by kernel_rfl
def rubrickref07_part.T8 : Bool × List (List Nat × List Nat) := (true, [([], []), ([], []), ([0, 1], [0, 1]), ([], []), ([], []), ([3, 4], [3, 4]), ([2, 5], [2, 5]), ([], []), ([], []), ([7, 8], [7, 8]), ([9, 6], [9]), ([10], [10]), ([6, 11, 10], [6, 11]), ([12, 12, 0, 1, 2, 3, 4, 5, 6, 7, 8, 9, 10, 11, 12], [12])])
def rubrickref07_part.B8 : List Nat := [0, 0, 3, 0, 0, 24, 63, 0, 0, 384, 1023, 2047, 4095, 8191]
theorem rubrickref07_part.tab8 : rtab .any (opsOf Tryd.f50 8) = rubrickref07_part.T8 := by kernel_rfl
theorem rubrickref07_part.bits8 : waitsOk rubrickref07_part.T8.2 rubrickref07_part.B8 = true := by kernel_rfl
set_option maxHeartbeats 8000000 in
set_option maxRecDepth 100000 in
theorem rubrickref07_part.calls (k : Nat) : ∀ (A0 : Option Addr) (c0 : Nat) (l0 : List ByteArray) (a1 : Int) (a2 : Bool) (r : List ByteArray) (w : World) (hr0 : Kd.C Kd.string w A0 l0.length l0) (hc0 : l0.length ≤ c0) (h : rubrickref07_part.f k l0 a1 a2 = some r),
  Calls Tryd.prog 50 #[.slice A0 l0.length c0, .int .i64 a1, .bool a2] w fun e w' => ∃ v0_ : Value, e = .returned (v0_) ∧ Kd.R Kd.string 9 w' w.heap.size (fun _ => True) v0_ r ∧ Below w.heap.size w w' := by
 induction k using Nat.strongRecOn with
 | _ k ih =>
 intro A0 c0 l0 a1 a2 r w hr0 hc0 h
 cases k with
 | zero => exact absurd h (by simp [rubrickref07_part.f])
 | succ k =>
 simp only [rubrickref07_part.f] at h
 have HR0 := Aside0.mk hr0
 have HC0 := Aside0.mk hc0
 clear hr0 hc0
 have HB := Aside0.mk (Below.refl w.heap.size w)
 have H : (if a1 = (l0.length : Int) then (if a2 = true then (some ([] : List ByteArray)) else ((rubrickref06_Root.f k l0).bind fun t126 => (some (([t126] : List ByteArray))))) else ((rubrickref06_Split.f k (l0.length : Int)).bind fun t130 => (if a1 ≤ t130 then (if 0 ≤ t130 then (if t130 ≤ (l0.length : Int) then ((rubrickref07_part.f k (l0.take (t130 : Int).toNat) a1 a2).bind fun t132 => ((rubrickref06_Root.f k (l0.drop (t130 : Int).toNat)).bind fun t136 => (if t132.length < 8796093022208 then (some (t132 ++ [t136])) else (none)))) else (none)) else (none)) else (if 0 ≤ t130 then (if t130 ≤ (l0.length : Int) then ((rubrickref07_part.f k (l0.drop (t130 : Int).toNat) (wrap64 (a1 - t130)) false).bind fun t141 => ((rubrickref06_Root.f k (l0.take (t130 : Int).toNat)).bind fun t145 => (if t141.length < 8796093022208 then (some (t141 ++ [t145])) else (none)))) else (none)) else (none))))) = some r := h
 clear h
 by_cases c4 : a1 = (l0.length : Int)
 ·rw [if_pos c4] at H
  have c4b0 : (a1 == (l0.length : Int)) = true := beq_iff_eq.mpr c4
  have c4b1 : (a1 != (l0.length : Int)) = false := bne_eq_false_iff_eq.mpr c4
  clear c4
  by_cases c5 : a2 = true
  ·subst c5
   have H1 : (some ([] : List ByteArray)) = some r := by rw [if_pos rfl] at H; exact H
   clear H
   have H := H1
   clear H1
   obtain rfl := Option.some.inj H
   go_enter Tryd.func50, Tryd.ntmps50
   go_wp2
   go_ret
   exact ⟨_, by first | rfl | (simp [errW_none, errW_some] <;> rfl) | (simp [*, errW_none, errW_some] <;> rfl), by first | exact Kd.R_nil _ _ _ _ _ | exact Kd.N_nil _ _ _ _ _ | exact Kd.V_nil _ _ _ _ _ | exact Kd.Q_nil _ _ _ _ _ | exact Kd.S_nil _ _ _ _ _, by repeat (first | (with_reducible first | exact HB.out | apply below_alloc | apply pw_below_drewN | apply below_drew1) | exact HB.out)⟩
  ·replace c5 := Bool.eq_false_iff.mpr c5
   subst c5
   have H1 : ((rubrickref06_Root.f k l0).bind fun t126 => (some (([t126] : List ByteArray)))) = some r := by rw [if_neg (show ¬ (false = true) by decide)] at H; exact H
   clear H
   have H := H1
   clear H1
   replace H := Option.bind_eq_some_iff.mp H
   obtain ⟨t126, A60, H⟩ := H
   replace H : (some (([t126] : List ByteArray))) = some r := H
   have A6 := Aside0.mk A60
   clear A60
   obtain ⟨y127, hy127⟩ : ∃ y_ : List ByteArray, y_ = (([t126] : List ByteArray)) := ⟨_, rfl⟩
   replace H : (some y127) = some r := by first | (rw [hy127]; with_reducible exact H) | (have H2_ := (Option.bind_some _ _).symm.trans H; rw [hy127]; with_reducible exact H2_) | (have H2_ := (Option.bind_some _ _).symm.trans H; with_reducible exact H2_) | with_reducible exact H | (rw [hy127]; exact H) | exact H
   have Ny127 := Aside0.mk hy127
   clear hy127
   obtain rfl := Option.some.inj H
   go_enter Tryd.func50, Tryd.ntmps50
   go_wp2_with (first | ((with_reducible refine gate_callee (f := 34) rfl ?_); refine goesL_ (some 14) rfl rfl Tryd.func34 (by kernel_rfl) rfl #[.slice A0 l0.length c0] rfl (by (try simp only [List.map_toArray, List.map_cons, List.map_nil]); first | done | rfl | (simp only [List.length_drop, List.length_take]; rfl)) ?_; (with_reducible refine (rubrickref06_Root.calls k _ _ l0 t126 _ ?side1 ?side2 A6.out).mono ?_); (case side1 => repeat (first | exact HR0.out | (with_reducible refine Kd.C_alloc ?_ _) | (with_reducible refine Kd.C_drewN ?_ _) | (with_reducible refine Kd.C_drew ?_))); (case side2 => exact HC0.out); rintro e w7 ⟨rfl, hb⟩; refine ⟨_, rfl, ?_⟩; have n0_ := Aside0.mk (below_step (by repeat (first | (with_reducible first | exact HB.out | apply below_alloc | apply pw_below_drewN | apply below_drew1) | exact HB.out)) hb); clear HB; have HB := n0_; clear n0_; (try clear hb); (try clear hb2); (try clear hk); (try clear hi)) | ((with_reducible refine gate_dst (N := 15) rfl ?_); refine Kd.R_lit Kd.string _ 9 ?hg (N := 15) ?hd (xs := ([t126] : List ByteArray)) (inner := [.string t126]) (ok := fun _ => True) (okp := fun _ => True) ?hr ?hp (fun _ hk => hk) trivial (Below.refl _ _) (Nat.le_refl _) (by simp) ?_; (case hd => rfl); (case hg => rfl); (case hr => first | (go_simp; done) | (go_simp; rfl)); (case hp => exact (Reps.one (show Kd.M Kd.string _ _ _ t126 [.string t126] from rfl) (Reps.none _ _))); intro v128 w8 ho9 hb hg_ hnew_; clear hg_ hnew_; (first | rw [← Ny127.out] at ho9 | (simp only [Int.reduceToNat] at ho9; rw [← Ny127.out] at ho9)); have n0_ := Aside0.mk (Kd.R_lower ho9 (below_size (by repeat (first | (with_reducible first | exact HB.out | apply below_alloc | apply pw_below_drewN | apply below_drew1) | exact HB.out)))); have n1_ := Aside0.mk (below_step (by repeat (first | (with_reducible first | exact HB.out | apply below_alloc | apply pw_below_drewN | apply below_drew1) | exact HB.out)) hb); clear HB; have HO129 := n0_; have HB := n1_; clear n0_ n1_; clear hb ho9))
   go_ret
   exact ⟨_, by first | rfl | (simp [errW_none, errW_some] <;> rfl) | (simp [*, errW_none, errW_some] <;> rfl), by (with_reducible repeat (first | apply Kd.R_alloc | apply Kd.R_drewN | apply Kd.R_drew)); exact HO129.out, by repeat (first | (with_reducible first | exact HB.out | apply below_alloc | apply pw_below_drewN | apply below_drew1) | exact HB.out)⟩
 ·rw [if_neg c4] at H
  have c4b0 : (a1 == (l0.length : Int)) = false := beq_eq_false_iff_ne.mpr c4
  have c4b1 : (a1 != (l0.length : Int)) = true := bne_iff_ne.mpr c4
  replace H := Option.bind_eq_some_iff.mp H
  obtain ⟨t130, A100, H⟩ := H
  replace H : (if a1 ≤ t130 then (if 0 ≤ t130 then (if t130 ≤ (l0.length : Int) then ((rubrickref07_part.f k (l0.take (t130 : Int).toNat) a1 a2).bind fun t132 => ((rubrickref06_Root.f k (l0.drop (t130 : Int).toNat)).bind fun t136 => (if t132.length < 8796093022208 then (some (t132 ++ [t136])) else (none)))) else (none)) else (none)) else (if 0 ≤ t130 then (if t130 ≤ (l0.length : Int) then ((rubrickref07_part.f k (l0.drop (t130 : Int).toNat) (wrap64 (a1 - t130)) false).bind fun t141 => ((rubrickref06_Root.f k (l0.take (t130 : Int).toNat)).bind fun t145 => (if t141.length < 8796093022208 then (some (t141 ++ [t145])) else (none)))) else (none)) else (none))) = some r := H
  have A10 := Aside0.mk A100
  clear A100
  by_cases c11 : a1 ≤ t130
  ·rw [if_pos c11] at H
   have c11b0 : decide (a1 ≤ t130) = true := decide_eq_true c11
   clear c11
   by_cases c12 : 0 ≤ t130
   ·rw [if_pos c12] at H
    have c12b0 := eq_true c12
    have c12b1 : decide (0 ≤ t130) = true := decide_eq_true c12
    clear c12
    by_cases c13 : t130 ≤ (l0.length : Int)
    ·rw [if_pos c13] at H
     have c13b0 := eq_true c13
     have c13b1 : decide (t130 ≤ (l0.length : Int)) = true := decide_eq_true c13
     clear c13
     replace H := Option.bind_eq_some_iff.mp H
     obtain ⟨t132, A140, H⟩ := H
     replace H : ((rubrickref06_Root.f k (l0.drop (t130 : Int).toNat)).bind fun t136 => (if t132.length < 8796093022208 then (some (t132 ++ [t136])) else (none))) = some r := H
     have A14 := Aside0.mk A140
     clear A140
     have c15b0 := eq_true (of_decide_eq_true (by first | (with_reducible assumption) | assumption) : 0 ≤ t130)
     have c16b0 := eq_true (of_decide_eq_true (by first | (with_reducible assumption) | assumption) : t130 ≤ (l0.length : Int))
     replace H := Option.bind_eq_some_iff.mp H
     obtain ⟨t136, A170, H⟩ := H
     replace H : (if t132.length < 8796093022208 then (some (t132 ++ [t136])) else (none)) = some r := H
     have A17 := Aside0.mk A170
     clear A170
     by_cases c18 : t132.length < 8796093022208
     ·rw [if_pos c18] at H
      have LMc18 := Aside0.mk c18
      clear c18
      obtain ⟨y137, hy137⟩ : ∃ y_ : List ByteArray, y_ = (t132 ++ [t136]) := ⟨_, rfl⟩
      replace H : (some y137) = some r := by first | (rw [hy137]; with_reducible exact H) | (have H2_ := (Option.bind_some _ _).symm.trans H; rw [hy137]; with_reducible exact H2_) | (have H2_ := (Option.bind_some _ _).symm.trans H; with_reducible exact H2_) | with_reducible exact H | (rw [hy137]; exact H) | exact H
      have Ny137 := Aside0.mk hy137
      clear hy137
      obtain rfl := Option.some.inj H
      go_enter Tryd.func50, Tryd.ntmps50
      try go_wp2_with (first | ((with_reducible refine gate_callee (f := 63) rfl ?_); refine goesL_ (some 18) rfl rfl Tryd.func63 (by kernel_rfl) rfl #[.int .i64 (l0.length : Int)] rfl (by (try simp only [List.map_toArray, List.map_cons, List.map_nil]); first | done | rfl | (simp only [List.length_drop, List.length_take]; rfl)) ?_; (with_reducible refine (rubrickref06_Split.calls k (l0.length : Int) t130 _ A10.out).mono ?_); rintro e w' ⟨rfl, ⟨nd, rfl⟩⟩; refine ⟨_, rfl, ?_⟩))
      (try simp only [World.drewN_drewN])
      generalize hq_ : World.drewN w _ = w19
      have n0_ : Aside0 (Below w.heap.size w w19) := ⟨by rw [← hq_]; exact pw_below_drewN HB.out _⟩
      clear hq_
      clear HB
      have HB := n0_
      clear n0_
      have n0_ := Aside0.mk (below_drew1 HB.out)
      clear HB
      have HB := n0_
      clear n0_
      obtain ⟨i021, hi021, _, hsz21, _⟩ := info_parts info9
      obtain ⟨hcut21, hA21, hC21⟩ := print_take_of (P := Tryd.prog) Value.string (⟨#[]⟩ : ByteArray) 22 9 .i64 Tryd.underlying22 hi021 hsz21 A0 c0 l0 t130 (of_decide_eq_true (by first | (with_reducible assumption) | assumption)) (of_decide_eq_true (by first | (with_reducible assumption) | assumption)) HC0.out
      have HR131 := Aside0.mk (Kd.C_of_reads (h1 := fun _ => rfl) (hA21 _ (Kd.reads_of_C HR0.out)))
      have HC131 := Aside0.mk hC21
      clear hA21 hC21 hi021 hsz21
      obtain ⟨i022, hi022, _, hsz22, _⟩ := info_parts info9
      obtain ⟨A22, hcut22, hA22, hC22⟩ := print_drop_of (P := Tryd.prog) Value.string (⟨#[]⟩ : ByteArray) 22 9 .i64 Tryd.underlying22 hi022 hsz22 A0 c0 l0 t130 (of_decide_eq_true (by first | (with_reducible assumption) | assumption)) (of_decide_eq_true (by first | (with_reducible assumption) | assumption)) HC0.out
      have HR135 := Aside0.mk (Kd.C_of_reads (h1 := fun _ => rfl) (hA22 _ (Kd.reads_of_C HR0.out)))
      have HC135 := Aside0.mk hC22
      clear hA22 hC22 hi022 hsz22
      refine start_ (n := 13) (S := fun w' => True) (ds := []) #[false, false, false, false, false, false, false, false, false, false, false, false, false] (by kernel_rfl) rfl rfl trivial (fun hHeld => ?_); refine with_tabW rubrickref07_part.tab7 rubrickref07_part.bits7 (fun HT_ HW_ => ?_)
      generalize w19.drew = w20 at HB hHeld ⊢
      refine HBulk.bulkT (fuel := 5) HT_.out HW_.out [(0, some 22, false), (1, some 23, false), (2, some 24, false), (3, some 25, false), (4, some 26, false), (6, some 28, false), (7, some 29, false), (8, some 30, false)] #[true, true, true, true, true, false, true, true, true, false, false, false, false] (a' := ?_) (by kernel_rfl) rfl hHeld ?_ ?_
      rotate_left
      ·repeat
        refine HBulk.RunsM.cons (v := ?_) (a1 := ?_) rfl rfl (fun _ _ _ h => h) (by rfl) ?_ ?_ ?_
        rotate_left
        ·intro w' hS_
         go_simp
         with_reducible rfl
        rotate_left
        ·simp only [Act.put, List.setIfInBounds_toArray, List.set_cons_zero, List.set_cons_succ, i64_w, i32_w]
         rfl
       exact HBulk.RunsM.nil
      refine one_ (i := 5) (N := some 27) #[true, true, true, true, true, true, true, true, true, false, false, false, false] rfl rfl (one_of HT_.out (by kernel_rfl)) (by decide) (fun K hK => ?_)
      refine goes_ Tryd.func50 (by kernel_rfl) rfl #[.slice A0 (l0.take (t130 : Int).toNat).length c0, .int .i64 a1, .bool a2] (by rfl) rfl rfl (by (try simp only [List.map_toArray, List.map_cons, List.map_nil]); first | done | (rw [show (l0.take (t130 : Int).toNat).length = t130.toNat from (by rw [List.length_take]; have h_ : (t130 : Int) ≤ (l0.length : Int) := of_decide_eq_true (by first | (with_reducible assumption) | assumption); omega)] <;> rfl) | rfl | (simp only [List.length_drop, List.length_take]; rfl)) ?_
      with_reducible refine (ih k (by omega) _ _ (l0.take (t130 : Int).toNat) a1 a2 t132 _ ?side1 ?side2 A14.out).mono ?_
      (case side1 => repeat (first | exact (Kd.C_below HR131.out HB.out) | (with_reducible refine Kd.C_alloc ?_ _) | (with_reducible refine Kd.C_drewN ?_ _) | (with_reducible refine Kd.C_drew ?_)))
      (case side2 => exact HC131.out)
      rintro e w23 ⟨v133, rfl, ho0, hb⟩
      refine ⟨_, rfl, ?_⟩
      have n0_ := Aside0.mk (Kd.R_lower ho0 (below_size (by repeat (first | (with_reducible first | exact HB.out | apply below_alloc | apply pw_below_drewN | apply below_drew1) | exact HB.out))))
      have n1_ := Aside0.mk (below_step (by repeat (first | (with_reducible first | exact HB.out | apply below_alloc | apply pw_below_drewN | apply below_drew1) | exact HB.out)) hb)
      clear HB
      have HO134 := n0_
      have HB := n1_
      clear n0_ n1_
      (try clear hb)
      (try clear hb2)
      (try clear hk)
      (try clear hi)
      (try clear ho0)
      refine hK.out _ _ trivial (fun hHeld => ?_)
      clear hK K
      refine norm_ (a' := ?_) ?_ ?_
      rotate_left
      ·show Act.put _ (some 27) _ = _
       simp only [Act.put, List.setIfInBounds_toArray, List.set_cons_zero, List.set_cons_succ, i64_w, i32_w]
       rfl
      refine one_ (i := 9) (N := some 31) #[true, true, true, true, true, true, true, true, true, true, false, false, false] rfl rfl (one_of HT_.out (by kernel_rfl)) (by decide) (fun K hK => ?_)
      refine goes_ Tryd.func34 (by kernel_rfl) rfl #[.slice A22 (l0.drop (t130 : Int).toNat).length (c0 - t130.toNat)] (by rfl) rfl rfl (by (try simp only [List.map_toArray, List.map_cons, List.map_nil]); first | done | (rw [show (l0.drop (t130 : Int).toNat).length = (l0.length - t130.toNat) from List.length_drop] <;> rfl) | rfl | (simp only [List.length_drop, List.length_take]; rfl)) ?_
      with_reducible refine (rubrickref06_Root.calls k _ _ (l0.drop (t130 : Int).toNat) t136 _ ?side1 ?side2 A17.out).mono ?_
      (case side1 => repeat (first | exact (Kd.C_below HR135.out HB.out) | (with_reducible refine Kd.C_alloc ?_ _) | (with_reducible refine Kd.C_drewN ?_ _) | (with_reducible refine Kd.C_drew ?_)))
      (case side2 => exact HC135.out)
      rintro e w24 ⟨rfl, hb⟩
      refine ⟨_, rfl, ?_⟩
      have n0_ := Aside0.mk (Kd.R_below (by (with_reducible repeat (first | apply Kd.R_alloc | apply Kd.R_drewN | apply Kd.R_drew)); exact HO134.out) hb)
      have n1_ := Aside0.mk (below_step (by repeat (first | (with_reducible first | exact HB.out | apply below_alloc | apply pw_below_drewN | apply below_drew1) | exact HB.out)) hb)
      clear HO134
      clear HB
      have HO134 := n0_
      have HB := n1_
      clear n0_ n1_
      (try clear hb)
      (try clear hb2)
      (try clear hk)
      (try clear hi)
      refine hK.out _ _ trivial (fun hHeld => ?_)
      clear hK K
      refine norm_ (a' := ?_) ?_ ?_
      rotate_left
      ·show Act.put _ (some 31) _ = _
       simp only [Act.put, List.setIfInBounds_toArray, List.set_cons_zero, List.set_cons_succ, i64_w, i32_w]
       rfl
      refine one_ (i := 10) (N := some 32) #[true, true, true, true, true, true, true, true, true, true, true, false, false] rfl rfl (one_of HT_.out (by kernel_rfl)) (by decide) (fun K hK => ?_)
      refine value_ (w1 := ?_) (v := ?_) (by rfl) rfl ?_ ?_
      rotate_left 2
      ·go_simp
       constructor
       ·rfl
       ·rfl
      refine hK.out _ _ trivial (fun hHeld => ?_)
      clear hK K
      refine norm_ (a' := ?_) ?_ ?_
      rotate_left
      ·show Act.put _ (some 32) _ = _
       simp only [Act.put, List.setIfInBounds_toArray, List.set_cons_zero, List.set_cons_succ, i64_w, i32_w]
       rfl
      refine one_ (i := 11) (N := some 33) #[true, true, true, true, true, true, true, true, true, true, true, true, false] rfl rfl (one_of HT_.out (by kernel_rfl)) (by decide) (fun K hK => ?_)
      refine Kd.R_append_step Kd.string (w0 := w) w.heap.size (by rfl) (.tmp 27) (.tmp 32) 22 9 (.string ⟨#[]⟩) 16 rfl Tryd.underlying22 info9 rfl (by decide) (by omega) v133 t132 t136 [.string t136] (fun _ => True) (fun _ => False) rfl rfl ?aP (fun _ hk => hk.elim) ?aF ?aO ?aB ?aS ?aL ?_
      (case aP => exact rfl)
      (case aB => exact (by repeat (first | (with_reducible first | exact HB.out | apply below_alloc | apply pw_below_drewN | apply below_drew1) | exact HB.out)))
      (case aF => exact (fun _ _ => trivial))
      (case aO => exact (by (with_reducible repeat (first | apply Kd.R_alloc | apply Kd.R_drewN | apply Kd.R_drew)); exact HO134.out))
      (case aS => exact (below_size (by repeat (first | (with_reducible first | exact HB.out | apply below_alloc | apply pw_below_drewN | apply below_drew1) | exact HB.out))))
      (case aL => have := LMc18.out; omega)
      intro v138 w25 ho hb hg hat
      rw [← Ny137.out] at ho
      have n0_ := Aside0.mk (hb)
      have n1_ := Aside0.mk (ho)
      clear HB
      clear HO134
      have HB := n0_
      have HO139 := n1_
      clear n0_ n1_
      clear ho hb hg hat
      refine hK.out _ _ trivial (fun hHeld => ?_)
      clear hK K
      refine norm_ (a' := ?_) ?_ ?_
      rotate_left
      ·show Act.put _ (some 33) _ = _
       simp only [Act.put, List.setIfInBounds_toArray, List.set_cons_zero, List.set_cons_succ, i64_w, i32_w]
       rfl
      refine pure_ (i := 12) (N := some 6) (v := ?_) (a' := ?_) #[true, true, true, true, true, true, true, true, true, true, true, true, true] rfl rfl (any_of HT_.out (by kernel_rfl)) (fun _ _ _ h => h) (Or.inl ⟨by rfl, ?_⟩) ?_ ?_
      rotate_left
      ·intro w'
       go_simp
       with_reducible rfl
      rotate_left
      ·simp only [Act.put, List.setIfInBounds_toArray, List.set_cons_zero, List.set_cons_succ, i64_w, i32_w]
       rfl
      refine done_ (done_of HT_.out (by kernel_rfl)) ?_
      try go_wp2
      go_ret
      exact ⟨_, by first | rfl | (simp [errW_none, errW_some] <;> rfl) | (simp [*, errW_none, errW_some] <;> rfl), by (with_reducible repeat (first | apply Kd.R_alloc | apply Kd.R_drewN | apply Kd.R_drew)); exact HO139.out, by repeat (first | (with_reducible first | exact HB.out | apply below_alloc | apply pw_below_drewN | apply below_drew1) | exact HB.out)⟩
     ·rw [if_neg c18] at H
      exact absurd H (by simp)
    ·rw [if_neg c13] at H
     exact absurd H (by simp)
   ·rw [if_neg c12] at H
    exact absurd H (by simp)
  ·rw [if_neg c11] at H
   have c11b0 : decide (a1 ≤ t130) = false := decide_eq_false c11
   clear c11
   by_cases c26 : 0 ≤ t130
   ·rw [if_pos c26] at H
    have c26b0 := eq_true c26
    have c26b1 : decide (0 ≤ t130) = true := decide_eq_true c26
    clear c26
    by_cases c27 : t130 ≤ (l0.length : Int)
    ·rw [if_pos c27] at H
     have c27b0 := eq_true c27
     have c27b1 : decide (t130 ≤ (l0.length : Int)) = true := decide_eq_true c27
     clear c27
     replace H := Option.bind_eq_some_iff.mp H
     obtain ⟨t141, A280, H⟩ := H
     replace H : ((rubrickref06_Root.f k (l0.take (t130 : Int).toNat)).bind fun t145 => (if t141.length < 8796093022208 then (some (t141 ++ [t145])) else (none))) = some r := H
     have A28 := Aside0.mk A280
     clear A280
     have c29b0 := eq_true (of_decide_eq_true (by first | (with_reducible assumption) | assumption) : 0 ≤ t130)
     have c30b0 := eq_true (of_decide_eq_true (by first | (with_reducible assumption) | assumption) : t130 ≤ (l0.length : Int))
     replace H := Option.bind_eq_some_iff.mp H
     obtain ⟨t145, A310, H⟩ := H
     replace H : (if t141.length < 8796093022208 then (some (t141 ++ [t145])) else (none)) = some r := H
     have A31 := Aside0.mk A310
     clear A310
     by_cases c32 : t141.length < 8796093022208
     ·rw [if_pos c32] at H
      have LMc32 := Aside0.mk c32
      clear c32
      obtain ⟨y146, hy146⟩ : ∃ y_ : List ByteArray, y_ = (t141 ++ [t145]) := ⟨_, rfl⟩
      replace H : (some y146) = some r := by first | (rw [hy146]; with_reducible exact H) | (have H2_ := (Option.bind_some _ _).symm.trans H; rw [hy146]; with_reducible exact H2_) | (have H2_ := (Option.bind_some _ _).symm.trans H; with_reducible exact H2_) | with_reducible exact H | (rw [hy146]; exact H) | exact H
      have Ny146 := Aside0.mk hy146
      clear hy146
      obtain rfl := Option.some.inj H
      go_enter Tryd.func50, Tryd.ntmps50
      try go_wp2_with (first | ((with_reducible refine gate_callee (f := 63) rfl ?_); refine goesL_ (some 18) rfl rfl Tryd.func63 (by kernel_rfl) rfl #[.int .i64 (l0.length : Int)] rfl (by (try simp only [List.map_toArray, List.map_cons, List.map_nil]); first | done | rfl | (simp only [List.length_drop, List.length_take]; rfl)) ?_; (with_reducible refine (rubrickref06_Split.calls k (l0.length : Int) t130 _ A10.out).mono ?_); rintro e w' ⟨rfl, ⟨nd, rfl⟩⟩; refine ⟨_, rfl, ?_⟩))
      (try simp only [World.drewN_drewN])
      generalize hq_ : World.drewN w _ = w33
      have n0_ : Aside0 (Below w.heap.size w w33) := ⟨by rw [← hq_]; exact pw_below_drewN HB.out _⟩
      clear hq_
      clear HB
      have HB := n0_
      clear n0_
      have n0_ := Aside0.mk (below_drew1 HB.out)
      clear HB
      have HB := n0_
      clear n0_
      obtain ⟨i035, hi035, _, hsz35, _⟩ := info_parts info9
      obtain ⟨A35, hcut35, hA35, hC35⟩ := print_drop_of (P := Tryd.prog) Value.string (⟨#[]⟩ : ByteArray) 22 9 .i64 Tryd.underlying22 hi035 hsz35 A0 c0 l0 t130 (of_decide_eq_true (by first | (with_reducible assumption) | assumption)) (of_decide_eq_true (by first | (with_reducible assumption) | assumption)) HC0.out
      have HR140 := Aside0.mk (Kd.C_of_reads (h1 := fun _ => rfl) (hA35 _ (Kd.reads_of_C HR0.out)))
      have HC140 := Aside0.mk hC35
      clear hA35 hC35 hi035 hsz35
      obtain ⟨i036, hi036, _, hsz36, _⟩ := info_parts info9
      obtain ⟨hcut36, hA36, hC36⟩ := print_take_of (P := Tryd.prog) Value.string (⟨#[]⟩ : ByteArray) 22 9 .i64 Tryd.underlying22 hi036 hsz36 A0 c0 l0 t130 (of_decide_eq_true (by first | (with_reducible assumption) | assumption)) (of_decide_eq_true (by first | (with_reducible assumption) | assumption)) HC0.out
      have HR144 := Aside0.mk (Kd.C_of_reads (h1 := fun _ => rfl) (hA36 _ (Kd.reads_of_C HR0.out)))
      have HC144 := Aside0.mk hC36
      clear hA36 hC36 hi036 hsz36
      refine start_ (n := 14) (S := fun w' => True) (ds := []) #[false, false, false, false, false, false, false, false, false, false, false, false, false, false] (by kernel_rfl) rfl rfl trivial (fun hHeld => ?_); refine with_tabW rubrickref07_part.tab8 rubrickref07_part.bits8 (fun HT_ HW_ => ?_)
      generalize w33.drew = w34 at HB hHeld ⊢
      refine HBulk.bulkT (fuel := 5) HT_.out HW_.out [(0, some 34, false), (1, some 35, false), (2, some 36, false), (3, some 37, false), (4, some 38, false), (5, some 39, false), (7, some 41, false), (8, some 42, false), (9, some 43, false)] #[true, true, true, true, true, true, false, true, true, true, false, false, false, false] (a' := ?_) (by kernel_rfl) rfl hHeld ?_ ?_
      rotate_left
      ·repeat
        refine HBulk.RunsM.cons (v := ?_) (a1 := ?_) rfl rfl (fun _ _ _ h => h) (by rfl) ?_ ?_ ?_
        rotate_left
        ·intro w' hS_
         go_simp
         with_reducible rfl
        rotate_left
        ·simp only [Act.put, List.setIfInBounds_toArray, List.set_cons_zero, List.set_cons_succ, i64_w, i32_w]
         rfl
       exact HBulk.RunsM.nil
      refine one_ (i := 6) (N := some 40) #[true, true, true, true, true, true, true, true, true, true, false, false, false, false] rfl rfl (one_of HT_.out (by kernel_rfl)) (by decide) (fun K hK => ?_)
      refine goes_ Tryd.func50 (by kernel_rfl) rfl #[.slice A35 (l0.drop (t130 : Int).toNat).length (c0 - t130.toNat), .int .i64 (wrap64 (a1 - t130)), .bool false] (by rfl) rfl rfl (by (try simp only [List.map_toArray, List.map_cons, List.map_nil]); first | done | (rw [show (l0.drop (t130 : Int).toNat).length = (l0.length - t130.toNat) from List.length_drop] <;> rfl) | rfl | (simp only [List.length_drop, List.length_take]; rfl)) ?_
      with_reducible refine (ih k (by omega) _ _ (l0.drop (t130 : Int).toNat) (wrap64 (a1 - t130)) false t141 _ ?side1 ?side2 A28.out).mono ?_
      (case side1 => repeat (first | exact (Kd.C_below HR140.out HB.out) | (with_reducible refine Kd.C_alloc ?_ _) | (with_reducible refine Kd.C_drewN ?_ _) | (with_reducible refine Kd.C_drew ?_)))
      (case side2 => exact HC140.out)
      rintro e w37 ⟨v142, rfl, ho0, hb⟩
      refine ⟨_, rfl, ?_⟩
      have n0_ := Aside0.mk (Kd.R_lower ho0 (below_size (by repeat (first | (with_reducible first | exact HB.out | apply below_alloc | apply pw_below_drewN | apply below_drew1) | exact HB.out))))
      have n1_ := Aside0.mk (below_step (by repeat (first | (with_reducible first | exact HB.out | apply below_alloc | apply pw_below_drewN | apply below_drew1) | exact HB.out)) hb)
      clear HB
      have HO143 := n0_
      have HB := n1_
      clear n0_ n1_
      (try clear hb)
      (try clear hb2)
      (try clear hk)
      (try clear hi)
      (try clear ho0)
      refine hK.out _ _ trivial (fun hHeld => ?_)
      clear hK K
      refine norm_ (a' := ?_) ?_ ?_
      rotate_left
      ·show Act.put _ (some 40) _ = _
       simp only [Act.put, List.setIfInBounds_toArray, List.set_cons_zero, List.set_cons_succ, i64_w, i32_w]
       rfl
      refine one_ (i := 10) (N := some 44) #[true, true, true, true, true, true, true, true, true, true, true, false, false, false] rfl rfl (one_of HT_.out (by kernel_rfl)) (by decide) (fun K hK => ?_)
      refine goes_ Tryd.func34 (by kernel_rfl) rfl #[.slice A0 (l0.take (t130 : Int).toNat).length c0] (by rfl) rfl rfl (by (try simp only [List.map_toArray, List.map_cons, List.map_nil]); first | done | (rw [show (l0.take (t130 : Int).toNat).length = t130.toNat from (by rw [List.length_take]; have h_ : (t130 : Int) ≤ (l0.length : Int) := of_decide_eq_true (by first | (with_reducible assumption) | assumption); omega)] <;> rfl) | rfl | (simp only [List.length_drop, List.length_take]; rfl)) ?_
      with_reducible refine (rubrickref06_Root.calls k _ _ (l0.take (t130 : Int).toNat) t145 _ ?side1 ?side2 A31.out).mono ?_
      (case side1 => repeat (first | exact (Kd.C_below HR144.out HB.out) | (with_reducible refine Kd.C_alloc ?_ _) | (with_reducible refine Kd.C_drewN ?_ _) | (with_reducible refine Kd.C_drew ?_)))
      (case side2 => exact HC144.out)
      rintro e w38 ⟨rfl, hb⟩
      refine ⟨_, rfl, ?_⟩
      have n0_ := Aside0.mk (Kd.R_below (by (with_reducible repeat (first | apply Kd.R_alloc | apply Kd.R_drewN | apply Kd.R_drew)); exact HO143.out) hb)
      have n1_ := Aside0.mk (below_step (by repeat (first | (with_reducible first | exact HB.out | apply below_alloc | apply pw_below_drewN | apply below_drew1) | exact HB.out)) hb)
      clear HO143
      clear HB
      have HO143 := n0_
      have HB := n1_
      clear n0_ n1_
      (try clear hb)
      (try clear hb2)
      (try clear hk)
      (try clear hi)
      refine hK.out _ _ trivial (fun hHeld => ?_)
      clear hK K
      refine norm_ (a' := ?_) ?_ ?_
      rotate_left
      ·show Act.put _ (some 44) _ = _
       simp only [Act.put, List.setIfInBounds_toArray, List.set_cons_zero, List.set_cons_succ, i64_w, i32_w]
       rfl
      refine one_ (i := 11) (N := some 45) #[true, true, true, true, true, true, true, true, true, true, true, true, false, false] rfl rfl (one_of HT_.out (by kernel_rfl)) (by decide) (fun K hK => ?_)
      refine value_ (w1 := ?_) (v := ?_) (by rfl) rfl ?_ ?_
      rotate_left 2
      ·go_simp
       constructor
       ·rfl
       ·rfl
      refine hK.out _ _ trivial (fun hHeld => ?_)
      clear hK K
      refine norm_ (a' := ?_) ?_ ?_
      rotate_left
      ·show Act.put _ (some 45) _ = _
       simp only [Act.put, List.setIfInBounds_toArray, List.set_cons_zero, List.set_cons_succ, i64_w, i32_w]
       rfl
      refine one_ (i := 12) (N := some 46) #[true, true, true, true, true, true, true, true, true, true, true, true, true, false] rfl rfl (one_of HT_.out (by kernel_rfl)) (by decide) (fun K hK => ?_)
      refine Kd.R_append_step Kd.string (w0 := w) w.heap.size (by rfl) (.tmp 40) (.tmp 45) 22 9 (.string ⟨#[]⟩) 16 rfl Tryd.underlying22 info9 rfl (by decide) (by omega) v142 t141 t145 [.string t145] (fun _ => True) (fun _ => False) rfl rfl ?aP (fun _ hk => hk.elim) ?aF ?aO ?aB ?aS ?aL ?_
      (case aP => exact rfl)
      (case aB => exact (by repeat (first | (with_reducible first | exact HB.out | apply below_alloc | apply pw_below_drewN | apply below_drew1) | exact HB.out)))
      (case aF => exact (fun _ _ => trivial))
      (case aO => exact (by (with_reducible repeat (first | apply Kd.R_alloc | apply Kd.R_drewN | apply Kd.R_drew)); exact HO143.out))
      (case aS => exact (below_size (by repeat (first | (with_reducible first | exact HB.out | apply below_alloc | apply pw_below_drewN | apply below_drew1) | exact HB.out))))
      (case aL => have := LMc32.out; omega)
      intro v147 w39 ho hb hg hat
      rw [← Ny146.out] at ho
      have n0_ := Aside0.mk (hb)
      have n1_ := Aside0.mk (ho)
      clear HB
      clear HO143
      have HB := n0_
      have HO148 := n1_
      clear n0_ n1_
      clear ho hb hg hat
      refine hK.out _ _ trivial (fun hHeld => ?_)
      clear hK K
      refine norm_ (a' := ?_) ?_ ?_
      rotate_left
      ·show Act.put _ (some 46) _ = _
       simp only [Act.put, List.setIfInBounds_toArray, List.set_cons_zero, List.set_cons_succ, i64_w, i32_w]
       rfl
      refine pure_ (i := 13) (N := some 6) (v := ?_) (a' := ?_) #[true, true, true, true, true, true, true, true, true, true, true, true, true, true] rfl rfl (any_of HT_.out (by kernel_rfl)) (fun _ _ _ h => h) (Or.inl ⟨by rfl, ?_⟩) ?_ ?_
      rotate_left
      ·intro w'
       go_simp
       with_reducible rfl
      rotate_left
      ·simp only [Act.put, List.setIfInBounds_toArray, List.set_cons_zero, List.set_cons_succ, i64_w, i32_w]
       rfl
      refine done_ (done_of HT_.out (by kernel_rfl)) ?_
      try go_wp2
      go_ret
      exact ⟨_, by first | rfl | (simp [errW_none, errW_some] <;> rfl) | (simp [*, errW_none, errW_some] <;> rfl), by (with_reducible repeat (first | apply Kd.R_alloc | apply Kd.R_drewN | apply Kd.R_drew)); exact HO148.out, by repeat (first | (with_reducible first | exact HB.out | apply below_alloc | apply pw_below_drewN | apply below_drew1) | exact HB.out)⟩
     ·rw [if_neg c32] at H
      exact absurd H (by simp)
    ·rw [if_neg c27] at H
     exact absurd H (by simp)
   ·rw [if_neg c26] at H
    exact absurd H (by simp)
/-! ### rubrickref07_Prove: function 19 -/
def rubrickref07_Prove.f (k : Nat) (l0 : List ByteArray) (a1 : Int) : Option (List ByteArray) := if a1 = 0 then (some ([] : List ByteArray)) else ((rubrickref07_part.f k l0 a1 true).bind fun t149 => (some t149))
set_option maxHeartbeats 8000000 in
set_option maxRecDepth 100000 in
theorem rubrickref07_Prove.calls (k : Nat) (A0 : Option Addr) (c0 : Nat) (l0 : List ByteArray) (a1 : Int) (r : List ByteArray) (w : World) (hr0 : Kd.C Kd.string w A0 l0.length l0) (hc0 : l0.length ≤ c0) (h : rubrickref07_Prove.f k l0 a1 = some r) :
  Calls Tryd.prog 19 #[.slice A0 l0.length c0, .int .i64 a1] w fun e w' => ∃ v0_ : Value, e = .returned (v0_) ∧ Kd.R Kd.string 9 w' w.heap.size (fun _ => True) v0_ r ∧ Below w.heap.size w w' := by
 have HR0 := Aside0.mk hr0
 have HC0 := Aside0.mk hc0
 clear hr0 hc0
 have HB := Aside0.mk (Below.refl w.heap.size w)
 have H : (if a1 = 0 then (some ([] : List ByteArray)) else ((rubrickref07_part.f k l0 a1 true).bind fun t149 => (some t149))) = some r := h
 clear h
 by_cases c3 : a1 = 0
 ·rw [if_pos c3] at H
  have c3b0 : (a1 == 0) = true := beq_iff_eq.mpr c3
  have c3b1 : (a1 != 0) = false := bne_eq_false_iff_eq.mpr c3
  clear c3
  obtain rfl := Option.some.inj H
  go_enter Tryd.func19, Tryd.ntmps19
  go_wp2
  go_ret
  exact ⟨_, by first | rfl | (simp [errW_none, errW_some] <;> rfl) | (simp [*, errW_none, errW_some] <;> rfl), by first | exact Kd.R_nil _ _ _ _ _ | exact Kd.N_nil _ _ _ _ _ | exact Kd.V_nil _ _ _ _ _ | exact Kd.Q_nil _ _ _ _ _ | exact Kd.S_nil _ _ _ _ _, by repeat (first | (with_reducible first | exact HB.out | apply below_alloc | apply pw_below_drewN | apply below_drew1) | exact HB.out)⟩
 ·rw [if_neg c3] at H
  have c3b0 : (a1 == 0) = false := beq_eq_false_iff_ne.mpr c3
  have c3b1 : (a1 != 0) = true := bne_iff_ne.mpr c3
  replace H := Option.bind_eq_some_iff.mp H
  obtain ⟨t149, A40, H⟩ := H
  replace H : (some t149) = some r := H
  have A4 := Aside0.mk A40
  clear A40
  obtain rfl := Option.some.inj H
  go_enter Tryd.func19, Tryd.ntmps19
  go_wp2_with (first | ((with_reducible refine gate_callee (f := 50) rfl ?_); refine goesL_ (some 9) rfl rfl Tryd.func50 (by kernel_rfl) rfl #[.slice A0 l0.length c0, .int .i64 a1, .bool true] rfl (by (try simp only [List.map_toArray, List.map_cons, List.map_nil]); first | done | rfl | (simp only [List.length_drop, List.length_take]; rfl)) ?_; (with_reducible refine (rubrickref07_part.calls k _ _ l0 a1 true t149 _ ?side1 ?side2 A4.out).mono ?_); (case side1 => repeat (first | exact HR0.out | (with_reducible refine Kd.C_alloc ?_ _) | (with_reducible refine Kd.C_drewN ?_ _) | (with_reducible refine Kd.C_drew ?_))); (case side2 => exact HC0.out); rintro e w5 ⟨v150, rfl, ho0, hb⟩; refine ⟨_, rfl, ?_⟩; have n0_ := Aside0.mk (Kd.R_lower ho0 (below_size (by repeat (first | (with_reducible first | exact HB.out | apply below_alloc | apply pw_below_drewN | apply below_drew1) | exact HB.out)))); have n1_ := Aside0.mk (below_step (by repeat (first | (with_reducible first | exact HB.out | apply below_alloc | apply pw_below_drewN | apply below_drew1) | exact HB.out)) hb); clear HB; have HO151 := n0_; have HB := n1_; clear n0_ n1_; (try clear hb); (try clear hb2); (try clear hk); (try clear hi); (try clear ho0)))
  go_ret
  exact ⟨_, by first | rfl | (simp [errW_none, errW_some] <;> rfl) | (simp [*, errW_none, errW_some] <;> rfl), by (with_reducible repeat (first | apply Kd.R_alloc | apply Kd.R_drewN | apply Kd.R_drew)); exact HO151.out, by repeat (first | (with_reducible first | exact HB.out | apply below_alloc | apply pw_below_drewN | apply below_drew1) | exact HB.out)⟩
/-! ### rubrickref07_Roots: function 54 -/
def rubrickref07_Roots.f : Nat → Int → Int → Bool → ByteArray → List ByteArray → Option (ByteArray × ByteArray × Bool)
 | 0, _, _, _, _, _ => none
 | k + 1, a0, a1, a2, a3, l4 => if a0 = a1 then (if a2 = true then (some (a3, a3, ((l4.length : Int) == 0))) else (if (l4.length : Int) = 1 then (if 0 < (l4.length : Int) then (some (rdOf ByteArray.empty l4 0, rdOf ByteArray.empty l4 0, true)) else (none)) else (some ((⟨#[]⟩ : ByteArray), (⟨#[]⟩ : ByteArray), false)))) else (if (l4.length : Int) = 0 then (some ((⟨#[]⟩ : ByteArray), (⟨#[]⟩ : ByteArray), false)) else ((rubrickref06_Split.f k a1).bind fun t154 => (if 0 ≤ (wrap64 ((l4.length : Int) - 1)) then (if (wrap64 ((l4.length : Int) - 1)) < (l4.length : Int) then (if (wrap64 ((l4.length : Int) - 1)) ≤ (l4.length : Int) then (if a0 ≤ t154 then ((rubrickref07_Roots.f k a0 t154 a2 a3 (l4.take ((wrap64 ((l4.length : Int) - 1)) : Int).toNat)).bind fun bt157 => ((rubrickref03_Node.f k bt157.2.1 (rdOf ByteArray.empty l4 (wrap64 ((l4.length : Int) - 1)))).bind fun t160 => (some (bt157.1, t160, bt157.2.2)))) else ((rubrickref07_Roots.f k (wrap64 (a0 - t154)) (wrap64 (a1 - t154)) false a3 (l4.take ((wrap64 ((l4.length : Int) - 1)) : Int).toNat)).bind fun bt161 => ((rubrickref03_Node.f k (rdOf ByteArray.empty l4 (wrap64 ((l4.length : Int) - 1))) bt161.1).bind fun t164 => ((rubrickref03_Node.f k (rdOf ByteArray.empty l4 (wrap64 ((l4.length : Int) - 1))) bt161.2.1).bind fun t165 => (some (t164, t165, bt161.2.2)))))) else (none)) else (none)) else (none))))
set_option maxHeartbeats 8000000 in
set_option maxRecDepth 100000 in
theorem rubrickref07_Roots.calls (k : Nat) : ∀ (a0 : Int) (a1 : Int) (a2 : Bool) (a3 : ByteArray) (A4 : Option Addr) (c4 : Nat) (l4 : List ByteArray) (r1 : ByteArray) (r2 : ByteArray) (r3 : Bool) (w : World) (hr4 : Kd.C Kd.string w A4 l4.length l4) (hc4 : l4.length ≤ c4) (h : rubrickref07_Roots.f k a0 a1 a2 a3 l4 = some (r1, r2, r3)),
  Calls Tryd.prog 54 #[.int .i64 a0, .int .i64 a1, .bool a2, .string a3, .slice A4 l4.length c4] w fun e w' => e = .returned (.tuple #[.string r1, .string r2, .bool r3]) ∧ Below w.heap.size w w' := by
 induction k using Nat.strongRecOn with
 | _ k ih =>
 intro a0 a1 a2 a3 A4 c4 l4 r1 r2 r3 w hr4 hc4 h
 cases k with
 | zero => exact absurd h (by simp [rubrickref07_Roots.f])
 | succ k =>
 simp only [rubrickref07_Roots.f] at h
 have HR4 := Aside0.mk hr4
 have HC4 := Aside0.mk hc4
 clear hr4 hc4
 have HB := Aside0.mk (Below.refl w.heap.size w)
 have H : (if a0 = a1 then (if a2 = true then (some (a3, a3, ((l4.length : Int) == 0))) else (if (l4.length : Int) = 1 then (if 0 < (l4.length : Int) then (some (rdOf ByteArray.empty l4 0, rdOf ByteArray.empty l4 0, true)) else (none)) else (some ((⟨#[]⟩ : ByteArray), (⟨#[]⟩ : ByteArray), false)))) else (if (l4.length : Int) = 0 then (some ((⟨#[]⟩ : ByteArray), (⟨#[]⟩ : ByteArray), false)) else ((rubrickref06_Split.f k a1).bind fun t154 => (if 0 ≤ (wrap64 ((l4.length : Int) - 1)) then (if (wrap64 ((l4.length : Int) - 1)) < (l4.length : Int) then (if (wrap64 ((l4.length : Int) - 1)) ≤ (l4.length : Int) then (if a0 ≤ t154 then ((rubrickref07_Roots.f k a0 t154 a2 a3 (l4.take ((wrap64 ((l4.length : Int) - 1)) : Int).toNat)).bind fun bt157 => ((rubrickref03_Node.f k bt157.2.1 (rdOf ByteArray.empty l4 (wrap64 ((l4.length : Int) - 1)))).bind fun t160 => (some (bt157.1, t160, bt157.2.2)))) else ((rubrickref07_Roots.f k (wrap64 (a0 - t154)) (wrap64 (a1 - t154)) false a3 (l4.take ((wrap64 ((l4.length : Int) - 1)) : Int).toNat)).bind fun bt161 => ((rubrickref03_Node.f k (rdOf ByteArray.empty l4 (wrap64 ((l4.length : Int) - 1))) bt161.1).bind fun t164 => ((rubrickref03_Node.f k (rdOf ByteArray.empty l4 (wrap64 ((l4.length : Int) - 1))) bt161.2.1).bind fun t165 => (some (t164, t165, bt161.2.2)))))) else (none)) else (none)) else (none))))) = some (r1, r2, r3) := h
 clear h
 by_cases c6 : a0 = a1
 ·rw [if_pos c6] at H
  have c6b0 : (a0 == a1) = true := beq_iff_eq.mpr c6
  have c6b1 : (a0 != a1) = false := bne_eq_false_iff_eq.mpr c6
  clear c6
  by_cases c7 : a2 = true
  ·subst c7
   have H1 : (some (a3, a3, ((l4.length : Int) == 0))) = some (r1, r2, r3) := by rw [if_pos rfl] at H; exact H
   clear H
   have H := H1
   clear H1
   simp only [Option.some.injEq, Prod.mk.injEq] at H
   obtain ⟨rfl, rfl, rfl⟩ := H
   go_enter Tryd.func54, Tryd.ntmps54
   go_wp2
   repeat (go_quiet (fail); try go_wp2)
   go_ret3
   exact ⟨by first | rfl | (simp [errW_none, errW_some] <;> rfl) | (simp [*, errW_none, errW_some] <;> rfl), by repeat (first | (with_reducible first | exact HB.out | apply below_alloc | apply pw_below_drewN | apply below_drew1) | exact HB.out)⟩
  ·replace c7 := Bool.eq_false_iff.mpr c7
   subst c7
   have H1 : (if (l4.length : Int) = 1 then (if 0 < (l4.length : Int) then (some (rdOf ByteArray.empty l4 0, rdOf ByteArray.empty l4 0, true)) else (none)) else (some ((⟨#[]⟩ : ByteArray), (⟨#[]⟩ : ByteArray), false))) = some (r1, r2, r3) := by rw [if_neg (show ¬ (false = true) by decide)] at H; exact H
   clear H
   have H := H1
   clear H1
   by_cases c8 : (l4.length : Int) = 1
   ·rw [if_pos c8] at H
    have c8b0 : ((l4.length : Int) == 1) = true := beq_iff_eq.mpr c8
    have c8b1 : ((l4.length : Int) != 1) = false := bne_eq_false_iff_eq.mpr c8
    clear c8
    by_cases c9 : 0 < (l4.length : Int)
    ·rw [if_pos c9] at H
     have c9b0 : decide (0 < (l4.length : Int)) = true := decide_eq_true c9
     have c9b1 : decide (0 < l4.length) = true := decide_eq_true (by omega)
     clear c9
     simp only [Option.some.injEq, Prod.mk.injEq] at H
     obtain ⟨rfl, rfl, rfl⟩ := H
     have p152 : 0 ≤ (0 : Int) := (by omega)
     have q152 : 0 < (l4.length : Int) := of_decide_eq_true (by first | (with_reducible assumption) | assumption)
     obtain ⟨ad152, e152, hx152_0⟩ := Kd.at_string HR4.out 0 p152 q152
     cases e152
     have qi152 : (0 < l4.length) = True := eq_true (by omega)
     (try rw [show ((0 : Int)).toNat = 0 from rfl] at hx152_0)
     (try rw [Addr.add_zero'] at hx152_0)
     replace p152 := eq_true p152
     replace q152 := eq_true q152
     have p153 : 0 ≤ (0 : Int) := (by omega)
     have q153 : 0 < (l4.length : Int) := of_decide_eq_true (by first | (with_reducible assumption) | assumption)
     obtain ⟨ad153, e153, hx153_0⟩ := Kd.at_string HR4.out 0 p153 q153
     obtain rfl : ad152 = ad153 := (by injection e153)
     have qi153 : (0 < l4.length) = True := eq_true (by omega)
     (try rw [show ((0 : Int)).toNat = 0 from rfl] at hx153_0)
     (try rw [Addr.add_zero'] at hx153_0)
     replace p153 := eq_true p153
     replace q153 := eq_true q153
     go_enter Tryd.func54, Tryd.ntmps54
     go_wp2
     repeat (go_quiet (fail); try go_wp2)
     go_ret3
     exact ⟨by first | rfl | (simp [errW_none, errW_some] <;> rfl) | (simp [*, errW_none, errW_some] <;> rfl), by repeat (first | (with_reducible first | exact HB.out | apply below_alloc | apply pw_below_drewN | apply below_drew1) | exact HB.out)⟩
    ·rw [if_neg c9] at H
     exact absurd H (by simp)
   ·rw [if_neg c8] at H
    have c8b0 : ((l4.length : Int) == 1) = false := beq_eq_false_iff_ne.mpr c8
    have c8b1 : ((l4.length : Int) != 1) = true := bne_iff_ne.mpr c8
    simp only [Option.some.injEq, Prod.mk.injEq] at H
    obtain ⟨rfl, rfl, rfl⟩ := H
    go_enter Tryd.func54, Tryd.ntmps54
    go_wp2
    repeat (go_quiet (fail); try go_wp2)
    go_ret3
    exact ⟨by first | rfl | (simp [errW_none, errW_some] <;> rfl) | (simp [*, errW_none, errW_some] <;> rfl), by repeat (first | (with_reducible first | exact HB.out | apply below_alloc | apply pw_below_drewN | apply below_drew1) | exact HB.out)⟩
 ·rw [if_neg c6] at H
  have c6b0 : (a0 == a1) = false := beq_eq_false_iff_ne.mpr c6
  have c6b1 : (a0 != a1) = true := bne_iff_ne.mpr c6
  by_cases c10 : (l4.length : Int) = 0
  ·rw [if_pos c10] at H
   have c10b0 : ((l4.length : Int) == 0) = true := beq_iff_eq.mpr c10
   have c10b1 : ((l4.length : Int) != 0) = false := bne_eq_false_iff_eq.mpr c10
   clear c10
   simp only [Option.some.injEq, Prod.mk.injEq] at H
   obtain ⟨rfl, rfl, rfl⟩ := H
   go_enter Tryd.func54, Tryd.ntmps54
   go_wp2
   repeat (go_quiet (fail); try go_wp2)
   go_ret3
   exact ⟨by first | rfl | (simp [errW_none, errW_some] <;> rfl) | (simp [*, errW_none, errW_some] <;> rfl), by repeat (first | (with_reducible first | exact HB.out | apply below_alloc | apply pw_below_drewN | apply below_drew1) | exact HB.out)⟩
  ·rw [if_neg c10] at H
   have c10b0 : ((l4.length : Int) == 0) = false := beq_eq_false_iff_ne.mpr c10
   have c10b1 : ((l4.length : Int) != 0) = true := bne_iff_ne.mpr c10
   have c10b2 : ¬ (l4 = []) := fun h_ => c10 (by rw [h_]; rfl)
   replace H := Option.bind_eq_some_iff.mp H
   obtain ⟨t154, A110, H⟩ := H
   replace H : (if 0 ≤ (wrap64 ((l4.length : Int) - 1)) then (if (wrap64 ((l4.length : Int) - 1)) < (l4.length : Int) then (if (wrap64 ((l4.length : Int) - 1)) ≤ (l4.length : Int) then (if a0 ≤ t154 then ((rubrickref07_Roots.f k a0 t154 a2 a3 (l4.take ((wrap64 ((l4.length : Int) - 1)) : Int).toNat)).bind fun bt157 => ((rubrickref03_Node.f k bt157.2.1 (rdOf ByteArray.empty l4 (wrap64 ((l4.length : Int) - 1)))).bind fun t160 => (some (bt157.1, t160, bt157.2.2)))) else ((rubrickref07_Roots.f k (wrap64 (a0 - t154)) (wrap64 (a1 - t154)) false a3 (l4.take ((wrap64 ((l4.length : Int) - 1)) : Int).toNat)).bind fun bt161 => ((rubrickref03_Node.f k (rdOf ByteArray.empty l4 (wrap64 ((l4.length : Int) - 1))) bt161.1).bind fun t164 => ((rubrickref03_Node.f k (rdOf ByteArray.empty l4 (wrap64 ((l4.length : Int) - 1))) bt161.2.1).bind fun t165 => (some (t164, t165, bt161.2.2)))))) else (none)) else (none)) else (none)) = some (r1, r2, r3) := H
   have A11 := Aside0.mk A110
   clear A110
   obtain ⟨ji12, hji12⟩ : ∃ j_ : Int, (wrap64 ((l4.length : Int) - 1)) = j_ := ⟨_, rfl⟩
   replace H : (if 0 ≤ (ji12) then (if (ji12) < (l4.length : Int) then (if (ji12) ≤ (l4.length : Int) then (if a0 ≤ t154 then ((rubrickref07_Roots.f k a0 t154 a2 a3 (l4.take ((ji12) : Int).toNat)).bind fun bt157 => ((rubrickref03_Node.f k bt157.2.1 (rdOf ByteArray.empty l4 (ji12))).bind fun t160 => (some (bt157.1, t160, bt157.2.2)))) else ((rubrickref07_Roots.f k (wrap64 (a0 - t154)) (wrap64 (a1 - t154)) false a3 (l4.take ((ji12) : Int).toNat)).bind fun bt161 => ((rubrickref03_Node.f k (rdOf ByteArray.empty l4 (ji12)) bt161.1).bind fun t164 => ((rubrickref03_Node.f k (rdOf ByteArray.empty l4 (ji12)) bt161.2.1).bind fun t165 => (some (t164, t165, bt161.2.2)))))) else (none)) else (none)) else (none)) = some (r1, r2, r3) := by first | (rw [hji12] at H; exact H) | (simp only [hji12] at H ⊢; exact H)
   (try rw [hji12] at A11)
   have hji12w : (IntKind.i64.wrap ((l4.length : Int) - 1)) = ji12 := (i64_w _).trans hji12
   by_cases c13 : 0 ≤ (ji12)
   ·rw [if_pos c13] at H
    have c13b0 : decide (0 ≤ (ji12)) = true := decide_eq_true c13
    clear c13
    by_cases c14 : (ji12) < (l4.length : Int)
    ·rw [if_pos c14] at H
     have c14b0 : decide ((ji12) < (l4.length : Int)) = true := decide_eq_true c14
     clear c14
     have c15b0 := eq_true (of_decide_eq_true (by first | (with_reducible assumption) | assumption) : 0 ≤ (ji12))
     by_cases c16 : (ji12) ≤ (l4.length : Int)
     ·rw [if_pos c16] at H
      have c16b0 := eq_true c16
      have c16b1 : decide ((ji12) ≤ (l4.length : Int)) = true := decide_eq_true c16
      clear c16
      by_cases c17 : a0 ≤ t154
      ·rw [if_pos c17] at H
       have c17b0 : decide (a0 ≤ t154) = true := decide_eq_true c17
       clear c17
       replace H := Option.bind_eq_some_iff.mp H
       obtain ⟨⟨t157, t158, t159⟩, A180, H⟩ := H
       replace H : ((rubrickref03_Node.f k t158 (rdOf ByteArray.empty l4 (ji12))).bind fun t160 => (some (t157, t160, t159))) = some (r1, r2, r3) := H
       have A18 := Aside0.mk A180
       clear A180
       replace H := Option.bind_eq_some_iff.mp H
       obtain ⟨t160, A190, H⟩ := H
       replace H : (some (t157, t160, t159)) = some (r1, r2, r3) := H
       have A19 := Aside0.mk A190
       clear A190
       simp only [Option.some.injEq, Prod.mk.injEq] at H
       obtain ⟨rfl, rfl, rfl⟩ := H
       go_enter Tryd.func54, Tryd.ntmps54
       go_wp2_with (first | (go_at_call 63; (with_reducible refine (rubrickref06_Split.calls k a1 t154 _ A11.out).mono ?_); rintro e w' ⟨rfl, ⟨nd, rfl⟩⟩; (try first | exact ⟨rfl, _, World.drewN_drewN _ _ _⟩ | exact ⟨rfl, _, Eq.trans (World.drewN_drewN _ _ _) (congrArg (World.drewN _) (Nat.add_assoc _ _ _))⟩); have p155 : 0 ≤ ((ji12) : Int) := of_decide_eq_true (by first | (with_reducible assumption) | assumption); have q155 : (ji12) < (l4.length : Int) := of_decide_eq_true (by first | (with_reducible assumption) | assumption); obtain ⟨ad155, e155, hx155_0⟩ := Kd.at_string HR4.out (ji12) p155 q155; cases e155; replace p155 := eq_true p155; replace q155 := eq_true q155; obtain ⟨i020, hi020, _, hsz20, _⟩ := info_parts info9; obtain ⟨hcut20, hA20, hC20⟩ := print_take_of (P := Tryd.prog) Value.string (⟨#[]⟩ : ByteArray) 22 9 .i64 Tryd.underlying22 hi020 hsz20 (some ad155) c4 l4 (ji12) (of_decide_eq_true (by first | (with_reducible assumption) | assumption)) (of_decide_eq_true (by first | (with_reducible assumption) | assumption)) HC4.out; have HR156 := Aside0.mk (Kd.C_of_reads (h1 := fun _ => rfl) (hA20 _ (Kd.reads_of_C HR4.out))); have HC156 := Aside0.mk hC20; clear hA20 hC20 hi020 hsz20) | (go_at_call 54; (try rw [show ((ji12) : Int).toNat = (l4.take ((ji12) : Int).toNat).length from by have h_ : ((ji12) : Int) ≤ (l4.length : Int) := of_decide_eq_true (by first | (with_reducible assumption) | assumption); rw [List.length_take]; omega]); (with_reducible refine (ih k (by omega) a0 t154 a2 a3 _ _ (l4.take ((ji12) : Int).toNat) t157 t158 t159 _ ?side1 ?side2 A18.out).mono ?_); (case side1 => repeat (first | exact HR156.out | (with_reducible refine Kd.C_alloc ?_ _) | (with_reducible refine Kd.C_drewN ?_ _) | (with_reducible refine Kd.C_drew ?_))); (case side2 => exact HC156.out); rintro e w21 ⟨rfl, hb⟩; have n0_ := Aside0.mk (below_step (by repeat (first | (with_reducible first | exact HB.out | apply below_alloc | apply pw_below_drewN | apply below_drew1) | exact HB.out)) hb); clear HB; have HB := n0_; clear n0_; (try clear hb); (try clear hb2); (try clear hk); (try clear hi)) | (go_at_call 70; (with_reducible refine (rubrickref03_Node.calls k t158 (rdOf ByteArray.empty l4 (ji12)) t160 _ A19.out).mono ?_); rintro e w22 ⟨rfl, hb⟩; have n0_ := Aside0.mk (below_step (by repeat (first | (with_reducible first | exact HB.out | apply below_alloc | apply pw_below_drewN | apply below_drew1) | exact HB.out)) hb); clear HB; have HB := n0_; clear n0_; (try clear hb); (try clear hb2); (try clear hk); (try clear hi)))
       repeat (go_quiet (first | (go_at_call 63; (with_reducible refine (rubrickref06_Split.calls k a1 t154 _ A11.out).mono ?_); rintro e w' ⟨rfl, ⟨nd, rfl⟩⟩; (try first | exact ⟨rfl, _, World.drewN_drewN _ _ _⟩ | exact ⟨rfl, _, Eq.trans (World.drewN_drewN _ _ _) (congrArg (World.drewN _) (Nat.add_assoc _ _ _))⟩); have p155 : 0 ≤ ((ji12) : Int) := of_decide_eq_true (by first | (with_reducible assumption) | assumption); have q155 : (ji12) < (l4.length : Int) := of_decide_eq_true (by first | (with_reducible assumption) | assumption); obtain ⟨ad155, e155, hx155_0⟩ := Kd.at_string HR4.out (ji12) p155 q155; cases e155; replace p155 := eq_true p155; replace q155 := eq_true q155; obtain ⟨i020, hi020, _, hsz20, _⟩ := info_parts info9; obtain ⟨hcut20, hA20, hC20⟩ := print_take_of (P := Tryd.prog) Value.string (⟨#[]⟩ : ByteArray) 22 9 .i64 Tryd.underlying22 hi020 hsz20 (some ad155) c4 l4 (ji12) (of_decide_eq_true (by first | (with_reducible assumption) | assumption)) (of_decide_eq_true (by first | (with_reducible assumption) | assumption)) HC4.out; have HR156 := Aside0.mk (Kd.C_of_reads (h1 := fun _ => rfl) (hA20 _ (Kd.reads_of_C HR4.out))); have HC156 := Aside0.mk hC20; clear hA20 hC20 hi020 hsz20) | (go_at_call 54; (try rw [show ((ji12) : Int).toNat = (l4.take ((ji12) : Int).toNat).length from by have h_ : ((ji12) : Int) ≤ (l4.length : Int) := of_decide_eq_true (by first | (with_reducible assumption) | assumption); rw [List.length_take]; omega]); (with_reducible refine (ih k (by omega) a0 t154 a2 a3 _ _ (l4.take ((ji12) : Int).toNat) t157 t158 t159 _ ?side1 ?side2 A18.out).mono ?_); (case side1 => repeat (first | exact HR156.out | (with_reducible refine Kd.C_alloc ?_ _) | (with_reducible refine Kd.C_drewN ?_ _) | (with_reducible refine Kd.C_drew ?_))); (case side2 => exact HC156.out); rintro e w21 ⟨rfl, hb⟩; have n0_ := Aside0.mk (below_step (by repeat (first | (with_reducible first | exact HB.out | apply below_alloc | apply pw_below_drewN | apply below_drew1) | exact HB.out)) hb); clear HB; have HB := n0_; clear n0_; (try clear hb); (try clear hb2); (try clear hk); (try clear hi)) | (go_at_call 70; (with_reducible refine (rubrickref03_Node.calls k t158 (rdOf ByteArray.empty l4 (ji12)) t160 _ A19.out).mono ?_); rintro e w22 ⟨rfl, hb⟩; have n0_ := Aside0.mk (below_step (by repeat (first | (with_reducible first | exact HB.out | apply below_alloc | apply pw_below_drewN | apply below_drew1) | exact HB.out)) hb); clear HB; have HB := n0_; clear n0_; (try clear hb); (try clear hb2); (try clear hk); (try clear hi))); try go_wp2_with (first | (go_at_call 63; (with_reducible refine (rubrickref06_Split.calls k a1 t154 _ A11.out).mono ?_); rintro e w' ⟨rfl, ⟨nd, rfl⟩⟩; (try first | exact ⟨rfl, _, World.drewN_drewN _ _ _⟩ | exact ⟨rfl, _, Eq.trans (World.drewN_drewN _ _ _) (congrArg (World.drewN _) (Nat.add_assoc _ _ _))⟩); have p155 : 0 ≤ ((ji12) : Int) := of_decide_eq_true (by first | (with_reducible assumption) | assumption); have q155 : (ji12) < (l4.length : Int) := of_decide_eq_true (by first | (with_reducible assumption) | assumption); obtain ⟨ad155, e155, hx155_0⟩ := Kd.at_string HR4.out (ji12) p155 q155; cases e155; replace p155 := eq_true p155; replace q155 := eq_true q155; obtain ⟨i020, hi020, _, hsz20, _⟩ := info_parts info9; obtain ⟨hcut20, hA20, hC20⟩ := print_take_of (P := Tryd.prog) Value.string (⟨#[]⟩ : ByteArray) 22 9 .i64 Tryd.underlying22 hi020 hsz20 (some ad155) c4 l4 (ji12) (of_decide_eq_true (by first | (with_reducible assumption) | assumption)) (of_decide_eq_true (by first | (with_reducible assumption) | assumption)) HC4.out; have HR156 := Aside0.mk (Kd.C_of_reads (h1 := fun _ => rfl) (hA20 _ (Kd.reads_of_C HR4.out))); have HC156 := Aside0.mk hC20; clear hA20 hC20 hi020 hsz20) | (go_at_call 54; (try rw [show ((ji12) : Int).toNat = (l4.take ((ji12) : Int).toNat).length from by have h_ : ((ji12) : Int) ≤ (l4.length : Int) := of_decide_eq_true (by first | (with_reducible assumption) | assumption); rw [List.length_take]; omega]); (with_reducible refine (ih k (by omega) a0 t154 a2 a3 _ _ (l4.take ((ji12) : Int).toNat) t157 t158 t159 _ ?side1 ?side2 A18.out).mono ?_); (case side1 => repeat (first | exact HR156.out | (with_reducible refine Kd.C_alloc ?_ _) | (with_reducible refine Kd.C_drewN ?_ _) | (with_reducible refine Kd.C_drew ?_))); (case side2 => exact HC156.out); rintro e w21 ⟨rfl, hb⟩; have n0_ := Aside0.mk (below_step (by repeat (first | (with_reducible first | exact HB.out | apply below_alloc | apply pw_below_drewN | apply below_drew1) | exact HB.out)) hb); clear HB; have HB := n0_; clear n0_; (try clear hb); (try clear hb2); (try clear hk); (try clear hi)) | (go_at_call 70; (with_reducible refine (rubrickref03_Node.calls k t158 (rdOf ByteArray.empty l4 (ji12)) t160 _ A19.out).mono ?_); rintro e w22 ⟨rfl, hb⟩; have n0_ := Aside0.mk (below_step (by repeat (first | (with_reducible first | exact HB.out | apply below_alloc | apply pw_below_drewN | apply below_drew1) | exact HB.out)) hb); clear HB; have HB := n0_; clear n0_; (try clear hb); (try clear hb2); (try clear hk); (try clear hi))))
       go_ret3
       exact ⟨by first | rfl | (simp [errW_none, errW_some] <;> rfl) | (simp only [← hji12]; first | rfl | (simp [errW_none, errW_some] <;> rfl)) | (simp [*, errW_none, errW_some] <;> rfl), by repeat (first | (with_reducible first | exact HB.out | apply below_alloc | apply pw_below_drewN | apply below_drew1) | exact HB.out)⟩
      ·rw [if_neg c17] at H
       have c17b0 : decide (a0 ≤ t154) = false := decide_eq_false c17
       clear c17
       replace H := Option.bind_eq_some_iff.mp H
       obtain ⟨⟨t161, t162, t163⟩, A230, H⟩ := H
       replace H : ((rubrickref03_Node.f k (rdOf ByteArray.empty l4 (ji12)) t161).bind fun t164 => ((rubrickref03_Node.f k (rdOf ByteArray.empty l4 (ji12)) t162).bind fun t165 => (some (t164, t165, t163)))) = some (r1, r2, r3) := H
       have A23 := Aside0.mk A230
       clear A230
       replace H := Option.bind_eq_some_iff.mp H
       obtain ⟨t164, A240, H⟩ := H
       replace H : ((rubrickref03_Node.f k (rdOf ByteArray.empty l4 (ji12)) t162).bind fun t165 => (some (t164, t165, t163))) = some (r1, r2, r3) := H
       have A24 := Aside0.mk A240
       clear A240
       replace H := Option.bind_eq_some_iff.mp H
       obtain ⟨t165, A250, H⟩ := H
       replace H : (some (t164, t165, t163)) = some (r1, r2, r3) := H
       have A25 := Aside0.mk A250
       clear A250
       simp only [Option.some.injEq, Prod.mk.injEq] at H
       obtain ⟨rfl, rfl, rfl⟩ := H
       go_enter Tryd.func54, Tryd.ntmps54
       go_wp2_with (first | (go_at_call 63; (with_reducible refine (rubrickref06_Split.calls k a1 t154 _ A11.out).mono ?_); rintro e w' ⟨rfl, ⟨nd, rfl⟩⟩; (try first | exact ⟨rfl, _, World.drewN_drewN _ _ _⟩ | exact ⟨rfl, _, Eq.trans (World.drewN_drewN _ _ _) (congrArg (World.drewN _) (Nat.add_assoc _ _ _))⟩); have p155 : 0 ≤ ((ji12) : Int) := of_decide_eq_true (by first | (with_reducible assumption) | assumption); have q155 : (ji12) < (l4.length : Int) := of_decide_eq_true (by first | (with_reducible assumption) | assumption); obtain ⟨ad155, e155, hx155_0⟩ := Kd.at_string HR4.out (ji12) p155 q155; cases e155; replace p155 := eq_true p155; replace q155 := eq_true q155; obtain ⟨i026, hi026, _, hsz26, _⟩ := info_parts info9; obtain ⟨hcut26, hA26, hC26⟩ := print_take_of (P := Tryd.prog) Value.string (⟨#[]⟩ : ByteArray) 22 9 .i64 Tryd.underlying22 hi026 hsz26 (some ad155) c4 l4 (ji12) (of_decide_eq_true (by first | (with_reducible assumption) | assumption)) (of_decide_eq_true (by first | (with_reducible assumption) | assumption)) HC4.out; have HR156 := Aside0.mk (Kd.C_of_reads (h1 := fun _ => rfl) (hA26 _ (Kd.reads_of_C HR4.out))); have HC156 := Aside0.mk hC26; clear hA26 hC26 hi026 hsz26) | (go_at_call 54; (try rw [show ((ji12) : Int).toNat = (l4.take ((ji12) : Int).toNat).length from by have h_ : ((ji12) : Int) ≤ (l4.length : Int) := of_decide_eq_true (by first | (with_reducible assumption) | assumption); rw [List.length_take]; omega]); (with_reducible refine (ih k (by omega) (wrap64 (a0 - t154)) (wrap64 (a1 - t154)) false a3 _ _ (l4.take ((ji12) : Int).toNat) t161 t162 t163 _ ?side1 ?side2 A23.out).mono ?_); (case side1 => repeat (first | exact HR156.out | (with_reducible refine Kd.C_alloc ?_ _) | (with_reducible refine Kd.C_drewN ?_ _) | (with_reducible refine Kd.C_drew ?_))); (case side2 => exact HC156.out); rintro e w27 ⟨rfl, hb⟩; have n0_ := Aside0.mk (below_step (by repeat (first | (with_reducible first | exact HB.out | apply below_alloc | apply pw_below_drewN | apply below_drew1) | exact HB.out)) hb); clear HB; have HB := n0_; clear n0_; (try clear hb); (try clear hb2); (try clear hk); (try clear hi)) | (go_at_call 70; (with_reducible refine (rubrickref03_Node.calls k (rdOf ByteArray.empty l4 (ji12)) t161 t164 _ A24.out).mono ?_); rintro e w28 ⟨rfl, hb⟩; have n0_ := Aside0.mk (below_step (by repeat (first | (with_reducible first | exact HB.out | apply below_alloc | apply pw_below_drewN | apply below_drew1) | exact HB.out)) hb); clear HB; have HB := n0_; clear n0_; (try clear hb); (try clear hb2); (try clear hk); (try clear hi)) | (go_at_call 70; (with_reducible refine (rubrickref03_Node.calls k (rdOf ByteArray.empty l4 (ji12)) t162 t165 _ A25.out).mono ?_); rintro e w29 ⟨rfl, hb⟩; have n0_ := Aside0.mk (below_step (by repeat (first | (with_reducible first | exact HB.out | apply below_alloc | apply pw_below_drewN | apply below_drew1) | exact HB.out)) hb); clear HB; have HB := n0_; clear n0_; (try clear hb); (try clear hb2); (try clear hk); (try clear hi)))
       repeat (go_quiet (first | (go_at_call 63; (with_reducible refine (rubrickref06_Split.calls k a1 t154 _ A11.out).mono ?_); rintro e w' ⟨rfl, ⟨nd, rfl⟩⟩; (try first | exact ⟨rfl, _, World.drewN_drewN _ _ _⟩ | exact ⟨rfl, _, Eq.trans (World.drewN_drewN _ _ _) (congrArg (World.drewN _) (Nat.add_assoc _ _ _))⟩); have p155 : 0 ≤ ((ji12) : Int) := of_decide_eq_true (by first | (with_reducible assumption) | assumption); have q155 : (ji12) < (l4.length : Int) := of_decide_eq_true (by first | (with_reducible assumption) | assumption); obtain ⟨ad155, e155, hx155_0⟩ := Kd.at_string HR4.out (ji12) p155 q155; cases e155; replace p155 := eq_true p155; replace q155 := eq_true q155; obtain ⟨i026, hi026, _, hsz26, _⟩ := info_parts info9; obtain ⟨hcut26, hA26, hC26⟩ := print_take_of (P := Tryd.prog) Value.string (⟨#[]⟩ : ByteArray) 22 9 .i64 Tryd.underlying22 hi026 hsz26 (some ad155) c4 l4 (ji12) (of_decide_eq_true (by first | (with_reducible assumption) | assumption)) (of_decide_eq_true (by first | (with_reducible assumption) | assumption)) HC4.out; have HR156 := Aside0.mk (Kd.C_of_reads (h1 := fun _ => rfl) (hA26 _ (Kd.reads_of_C HR4.out))); have HC156 := Aside0.mk hC26; clear hA26 hC26 hi026 hsz26) | (go_at_call 54; (try rw [show ((ji12) : Int).toNat = (l4.take ((ji12) : Int).toNat).length from by have h_ : ((ji12) : Int) ≤ (l4.length : Int) := of_decide_eq_true (by first | (with_reducible assumption) | assumption); rw [List.length_take]; omega]); (with_reducible refine (ih k (by omega) (wrap64 (a0 - t154)) (wrap64 (a1 - t154)) false a3 _ _ (l4.take ((ji12) : Int).toNat) t161 t162 t163 _ ?side1 ?side2 A23.out).mono ?_); (case side1 => repeat (first | exact HR156.out | (with_reducible refine Kd.C_alloc ?_ _) | (with_reducible refine Kd.C_drewN ?_ _) | (with_reducible refine Kd.C_drew ?_))); (case side2 => exact HC156.out); rintro e w27 ⟨rfl, hb⟩; have n0_ := Aside0.mk (below_step (by repeat (first | (with_reducible first | exact HB.out | apply below_alloc | apply pw_below_drewN | apply below_drew1) | exact HB.out)) hb); clear HB; have HB := n0_; clear n0_; (try clear hb); (try clear hb2); (try clear hk); (try clear hi)) | (go_at_call 70; (with_reducible refine (rubrickref03_Node.calls k (rdOf ByteArray.empty l4 (ji12)) t161 t164 _ A24.out).mono ?_); rintro e w28 ⟨rfl, hb⟩; have n0_ := Aside0.mk (below_step (by repeat (first | (with_reducible first | exact HB.out | apply below_alloc | apply pw_below_drewN | apply below_drew1) | exact HB.out)) hb); clear HB; have HB := n0_; clear n0_; (try clear hb); (try clear hb2); (try clear hk); (try clear hi)) | (go_at_call 70; (with_reducible refine (rubrickref03_Node.calls k (rdOf ByteArray.empty l4 (ji12)) t162 t165 _ A25.out).mono ?_); rintro e w29 ⟨rfl, hb⟩; have n0_ := Aside0.mk (below_step (by repeat (first | (with_reducible first | exact HB.out | apply below_alloc | apply pw_below_drewN | apply below_drew1) | exact HB.out)) hb); clear HB; have HB := n0_; clear n0_; (try clear hb); (try clear hb2); (try clear hk); (try clear hi))); try go_wp2_with (first | (go_at_call 63; (with_reducible refine (rubrickref06_Split.calls k a1 t154 _ A11.out).mono ?_); rintro e w' ⟨rfl, ⟨nd, rfl⟩⟩; (try first | exact ⟨rfl, _, World.drewN_drewN _ _ _⟩ | exact ⟨rfl, _, Eq.trans (World.drewN_drewN _ _ _) (congrArg (World.drewN _) (Nat.add_assoc _ _ _))⟩); have p155 : 0 ≤ ((ji12) : Int) := of_decide_eq_true (by first | (with_reducible assumption) | assumption); have q155 : (ji12) < (l4.length : Int) := of_decide_eq_true (by first | (with_reducible assumption) | assumption); obtain ⟨ad155, e155, hx155_0⟩ := Kd.at_string HR4.out (ji12) p155 q155; cases e155; replace p155 := eq_true p155; replace q155 := eq_true q155; obtain ⟨i026, hi026, _, hsz26, _⟩ := info_parts info9; obtain ⟨hcut26, hA26, hC26⟩ := print_take_of (P := Tryd.prog) Value.string (⟨#[]⟩ : ByteArray) 22 9 .i64 Tryd.underlying22 hi026 hsz26 (some ad155) c4 l4 (ji12) (of_decide_eq_true (by first | (with_reducible assumption) | assumption)) (of_decide_eq_true (by first | (with_reducible assumption) | assumption)) HC4.out; have HR156 := Aside0.mk (Kd.C_of_reads (h1 := fun _ => rfl) (hA26 _ (Kd.reads_of_C HR4.out))); have HC156 := Aside0.mk hC26; clear hA26 hC26 hi026 hsz26) | (go_at_call 54; (try rw [show ((ji12) : Int).toNat = (l4.take ((ji12) : Int).toNat).length from by have h_ : ((ji12) : Int) ≤ (l4.length : Int) := of_decide_eq_true (by first | (with_reducible assumption) | assumption); rw [List.length_take]; omega]); (with_reducible refine (ih k (by omega) (wrap64 (a0 - t154)) (wrap64 (a1 - t154)) false a3 _ _ (l4.take ((ji12) : Int).toNat) t161 t162 t163 _ ?side1 ?side2 A23.out).mono ?_); (case side1 => repeat (first | exact HR156.out | (with_reducible refine Kd.C_alloc ?_ _) | (with_reducible refine Kd.C_drewN ?_ _) | (with_reducible refine Kd.C_drew ?_))); (case side2 => exact HC156.out); rintro e w27 ⟨rfl, hb⟩; have n0_ := Aside0.mk (below_step (by repeat (first | (with_reducible first | exact HB.out | apply below_alloc | apply pw_below_drewN | apply below_drew1) | exact HB.out)) hb); clear HB; have HB := n0_; clear n0_; (try clear hb); (try clear hb2); (try clear hk); (try clear hi)) | (go_at_call 70; (with_reducible refine (rubrickref03_Node.calls k (rdOf ByteArray.empty l4 (ji12)) t161 t164 _ A24.out).mono ?_); rintro e w28 ⟨rfl, hb⟩; have n0_ := Aside0.mk (below_step (by repeat (first | (with_reducible first | exact HB.out | apply below_alloc | apply pw_below_drewN | apply below_drew1) | exact HB.out)) hb); clear HB; have HB := n0_; clear n0_; (try clear hb); (try clear hb2); (try clear hk); (try clear hi)) | (go_at_call 70; (with_reducible refine (rubrickref03_Node.calls k (rdOf ByteArray.empty l4 (ji12)) t162 t165 _ A25.out).mono ?_); rintro e w29 ⟨rfl, hb⟩; have n0_ := Aside0.mk (below_step (by repeat (first | (with_reducible first | exact HB.out | apply below_alloc | apply pw_below_drewN | apply below_drew1) | exact HB.out)) hb); clear HB; have HB := n0_; clear n0_; (try clear hb); (try clear hb2); (try clear hk); (try clear hi))))
       go_ret3
       exact ⟨by first | rfl | (simp [errW_none, errW_some] <;> rfl) | (simp only [← hji12]; first | rfl | (simp [errW_none, errW_some] <;> rfl)) | (simp [*, errW_none, errW_some] <;> rfl), by repeat (first | (with_reducible first | exact HB.out | apply below_alloc | apply pw_below_drewN | apply below_drew1) | exact HB.out)⟩
     ·rw [if_neg c16] at H
      exact absurd H (by simp)
    ·rw [if_neg c14] at H
     exact absurd H (by simp)
   ·rw [if_neg c13] at H
    exact absurd H (by simp)
end Go.Proofs.YtpmefpdafkbphaaDoor.PP
namespace Go.Proofs.YtpmefpdafkbphaaDoor.PP
open Go.RowKit Go.Proofs.YtpmefpdafkbphaaDoor Go.Proofs.YtpmefpdafkbphaaDoor.HSha Go.Proofs.YtpmefpdafkbphaaDoor.PS Go.Proofs.YtpmefpdafkbphaaDoor.PR Go.Proofs.YtpmefpdafkbphaaDoor.PT Go.Proofs.YtpmefpdafkbphaaDoor.PB Go.Proofs.YtpmefpdafkbphaaDoor.HNode Go.Proofs.YtpmefpdafkbphaaDoor.PC Go.Proofs.YtpmefpdafkbphaaDoorW.PrintWords Go.Proofs.YtpmefpdafkbphaaDoorW.PrintLast Go.Proofs.YtpmefpdafkbphaaDoorW.PrintMore
attribute [local go_sem] max2_int min2_int max_two min_two max_three min_three max_four min_four   -- for this text's walks alone
set_option linter.unusedVariables false
set_option linter.unusedSimpArgs false
/-! ### rubrickref07_Check: function 22 -/
def rubrickref07_Check.f (k : Nat) (a0 : Int) (a1 : Int) (a2 : ByteArray) (a3 : ByteArray) (l4 : List ByteArray) : Option (Bool) := (rubrickref06_Right.f k l4).bind fun t166 => (if t166 = true then (if a0 = 0 then (if (l4.length : Int) = 0 then ((rubrickref01_Sum.f k ([] : List Int)).bind fun t167 => (some (a2.toList == t167.toList))) else (some false)) else ((rubrickref07_Roots.f k a0 a1 true a2 l4).bind fun bt168 => (if bt168.2.2 = true then (if bt168.1.toList = a2.toList then (some (bt168.2.1.toList == a3.toList)) else (some false)) else (some false)))) else (some false))
set_option maxHeartbeats 8000000 in
set_option maxRecDepth 100000 in
theorem rubrickref07_Check.calls (k : Nat) (a0 : Int) (a1 : Int) (a2 : ByteArray) (a3 : ByteArray) (A4 : Option Addr) (c4 : Nat) (l4 : List ByteArray) (r : Bool) (w : World) (hr4 : Kd.C Kd.string w A4 l4.length l4) (hc4 : l4.length ≤ c4) (h : rubrickref07_Check.f k a0 a1 a2 a3 l4 = some r) :
  Calls Tryd.prog 22 #[.int .i64 a0, .int .i64 a1, .string a2, .string a3, .slice A4 l4.length c4] w fun e w' => e = .returned (.bool r) ∧ Below w.heap.size w w' := by
 have HR4 := Aside0.mk hr4
 have HC4 := Aside0.mk hc4
 clear hr4 hc4
 have HB := Aside0.mk (Below.refl w.heap.size w)
 have H : ((rubrickref06_Right.f k l4).bind fun t166 => (if t166 = true then (if a0 = 0 then (if (l4.length : Int) = 0 then ((rubrickref01_Sum.f k ([] : List Int)).bind fun t167 => (some (a2.toList == t167.toList))) else (some false)) else ((rubrickref07_Roots.f k a0 a1 true a2 l4).bind fun bt168 => (if bt168.2.2 = true then (if bt168.1.toList = a2.toList then (some (bt168.2.1.toList == a3.toList)) else (some false)) else (some false)))) else (some false))) = some r := h
 clear h
 replace H := Option.bind_eq_some_iff.mp H
 obtain ⟨t166, A60, H⟩ := H
 replace H : (if t166 = true then (if a0 = 0 then (if (l4.length : Int) = 0 then ((rubrickref01_Sum.f k ([] : List Int)).bind fun t167 => (some (a2.toList == t167.toList))) else (some false)) else ((rubrickref07_Roots.f k a0 a1 true a2 l4).bind fun bt168 => (if bt168.2.2 = true then (if bt168.1.toList = a2.toList then (some (bt168.2.1.toList == a3.toList)) else (some false)) else (some false)))) else (some false)) = some r := H
 have A6 := Aside0.mk A60
 clear A60
 by_cases c7 : t166 = true
 ·subst c7
  have H1 : (if a0 = 0 then (if (l4.length : Int) = 0 then ((rubrickref01_Sum.f k ([] : List Int)).bind fun t167 => (some (a2.toList == t167.toList))) else (some false)) else ((rubrickref07_Roots.f k a0 a1 true a2 l4).bind fun bt168 => (if bt168.2.2 = true then (if bt168.1.toList = a2.toList then (some (bt168.2.1.toList == a3.toList)) else (some false)) else (some false)))) = some r := by rw [if_pos rfl] at H; exact H
  clear H
  have H := H1
  clear H1
  by_cases c8 : a0 = 0
  ·rw [if_pos c8] at H
   have c8b0 : (a0 == 0) = true := beq_iff_eq.mpr c8
   have c8b1 : (a0 != 0) = false := bne_eq_false_iff_eq.mpr c8
   clear c8
   by_cases c9 : (l4.length : Int) = 0
   ·rw [if_pos c9] at H
    have c9b0 : ((l4.length : Int) == 0) = true := beq_iff_eq.mpr c9
    have c9b1 : ((l4.length : Int) != 0) = false := bne_eq_false_iff_eq.mpr c9
    clear c9
    replace H := Option.bind_eq_some_iff.mp H
    obtain ⟨t167, A100, H⟩ := H
    replace H : (some (a2.toList == t167.toList)) = some r := H
    have A10 := Aside0.mk A100
    clear A100
    obtain rfl := Option.some.inj H
    go_enter Tryd.func22, Tryd.ntmps22
    go_wp2_with (first | ((with_reducible refine gate_callee (f := 17) rfl ?_); refine goesL_ (some 15) rfl rfl Tryd.func17 (by kernel_rfl) rfl #[.slice A4 l4.length c4] rfl (by (try simp only [List.map_toArray, List.map_cons, List.map_nil]); first | done | rfl | (simp only [List.length_drop, List.length_take]; rfl)) ?_; (with_reducible refine (rubrickref06_Right.calls k _ _ l4 true _ ?side1 ?side2 A6.out).mono ?_); (case side1 => repeat (first | exact HR4.out | (with_reducible refine Kd.C_alloc ?_ _) | (with_reducible refine Kd.C_drewN ?_ _) | (with_reducible refine Kd.C_drew ?_))); (case side2 => exact HC4.out); rintro e w' ⟨rfl, ⟨nd, rfl⟩⟩; refine ⟨_, rfl, ?_⟩) | (go_at_call 53; (refine (rubrickref01_Sum.calls k _ _ ([] : List Int) t167 _ ?side1 ?side2 A10.out).mono ?_); (case side1 => exact Kd.C_nil _ _); (case side2 => exact Nat.le_refl _); rintro e w11 ⟨rfl, hb⟩; have n0_ := Aside0.mk (below_step (by repeat (first | (with_reducible first | exact HB.out | apply below_alloc | apply pw_below_drewN | apply below_drew1) | exact HB.out)) hb); clear HB; have HB := n0_; clear n0_; (try clear hb); (try clear hb2); (try clear hk); (try clear hi)))
    go_ret
    exact ⟨by first | rfl | (simp [errW_none, errW_some] <;> rfl) | (simp [*, errW_none, errW_some] <;> rfl), by repeat (first | (with_reducible first | exact HB.out | apply below_alloc | apply pw_below_drewN | apply below_drew1) | exact HB.out)⟩
   ·rw [if_neg c9] at H
    have c9b0 : ((l4.length : Int) == 0) = false := beq_eq_false_iff_ne.mpr c9
    have c9b1 : ((l4.length : Int) != 0) = true := bne_iff_ne.mpr c9
    have c9b2 : ¬ (l4 = []) := fun h_ => c9 (by rw [h_]; rfl)
    obtain rfl := Option.some.inj H
    go_enter Tryd.func22, Tryd.ntmps22
    go_wp2_with (first | ((with_reducible refine gate_callee (f := 17) rfl ?_); refine goesL_ (some 15) rfl rfl Tryd.func17 (by kernel_rfl) rfl #[.slice A4 l4.length c4] rfl (by (try simp only [List.map_toArray, List.map_cons, List.map_nil]); first | done | rfl | (simp only [List.length_drop, List.length_take]; rfl)) ?_; (with_reducible refine (rubrickref06_Right.calls k _ _ l4 true _ ?side1 ?side2 A6.out).mono ?_); (case side1 => repeat (first | exact HR4.out | (with_reducible refine Kd.C_alloc ?_ _) | (with_reducible refine Kd.C_drewN ?_ _) | (with_reducible refine Kd.C_drew ?_))); (case side2 => exact HC4.out); rintro e w' ⟨rfl, ⟨nd, rfl⟩⟩; refine ⟨_, rfl, ?_⟩))
    go_ret
    exact ⟨by first | rfl | (simp [errW_none, errW_some] <;> rfl) | (simp [*, errW_none, errW_some] <;> rfl), by repeat (first | (with_reducible first | exact HB.out | apply below_alloc | apply pw_below_drewN | apply below_drew1) | exact HB.out)⟩
  ·rw [if_neg c8] at H
   have c8b0 : (a0 == 0) = false := beq_eq_false_iff_ne.mpr c8
   have c8b1 : (a0 != 0) = true := bne_iff_ne.mpr c8
   replace H := Option.bind_eq_some_iff.mp H
   obtain ⟨⟨t168, t169, t170⟩, A120, H⟩ := H
   replace H : (if t170 = true then (if t168.toList = a2.toList then (some (t169.toList == a3.toList)) else (some false)) else (some false)) = some r := H
   have A12 := Aside0.mk A120
   clear A120
   by_cases c13 : t170 = true
   ·subst c13
    have H1 : (if t168.toList = a2.toList then (some (t169.toList == a3.toList)) else (some false)) = some r := by rw [if_pos rfl] at H; exact H
    clear H
    have H := H1
    clear H1
    by_cases c14 : t168.toList = a2.toList
    ·rw [if_pos c14] at H
     have c14b0 : (t168.toList == a2.toList) = true := beq_iff_eq.mpr c14
     have c14b1 : (t168.toList != a2.toList) = false := bne_eq_false_iff_eq.mpr c14
     clear c14
     obtain rfl := Option.some.inj H
     go_enter Tryd.func22, Tryd.ntmps22
     go_wp2_with (first | ((with_reducible refine gate_callee (f := 17) rfl ?_); refine goesL_ (some 15) rfl rfl Tryd.func17 (by kernel_rfl) rfl #[.slice A4 l4.length c4] rfl (by (try simp only [List.map_toArray, List.map_cons, List.map_nil]); first | done | rfl | (simp only [List.length_drop, List.length_take]; rfl)) ?_; (with_reducible refine (rubrickref06_Right.calls k _ _ l4 true _ ?side1 ?side2 A6.out).mono ?_); (case side1 => repeat (first | exact HR4.out | (with_reducible refine Kd.C_alloc ?_ _) | (with_reducible refine Kd.C_drewN ?_ _) | (with_reducible refine Kd.C_drew ?_))); (case side2 => exact HC4.out); rintro e w' ⟨rfl, ⟨nd, rfl⟩⟩; refine ⟨_, rfl, ?_⟩) | ((with_reducible refine gate_callee (f := 54) rfl ?_); refine goesL_ (some 32) rfl rfl Tryd.func54 (by kernel_rfl) rfl #[.int .i64 a0, .int .i64 a1, .bool true, .string a2, .slice A4 l4.length c4] rfl (by (try simp only [List.map_toArray, List.map_cons, List.map_nil]); first | done | rfl | (simp only [List.length_drop, List.length_take]; rfl)) ?_; (with_reducible refine (rubrickref07_Roots.calls k a0 a1 true a2 _ _ l4 t168 t169 true _ ?side1 ?side2 A12.out).mono ?_); (case side1 => repeat (first | exact HR4.out | (with_reducible refine Kd.C_alloc ?_ _) | (with_reducible refine Kd.C_drewN ?_ _) | (with_reducible refine Kd.C_drew ?_))); (case side2 => exact HC4.out); rintro e w15 ⟨rfl, hb⟩; refine ⟨_, rfl, ?_⟩; have n0_ := Aside0.mk (below_step (by repeat (first | (with_reducible first | exact HB.out | apply below_alloc | apply pw_below_drewN | apply below_drew1) | exact HB.out)) hb); clear HB; have HB := n0_; clear n0_; (try clear hb); (try clear hb2); (try clear hk); (try clear hi)))
     go_ret
     exact ⟨by first | rfl | (simp [errW_none, errW_some] <;> rfl) | (simp [*, errW_none, errW_some] <;> rfl), by repeat (first | (with_reducible first | exact HB.out | apply below_alloc | apply pw_below_drewN | apply below_drew1) | exact HB.out)⟩
    ·rw [if_neg c14] at H
     have c14b0 : (t168.toList == a2.toList) = false := beq_eq_false_iff_ne.mpr c14
     have c14b1 : (t168.toList != a2.toList) = true := bne_iff_ne.mpr c14
     obtain rfl := Option.some.inj H
     go_enter Tryd.func22, Tryd.ntmps22
     go_wp2_with (first | ((with_reducible refine gate_callee (f := 17) rfl ?_); refine goesL_ (some 15) rfl rfl Tryd.func17 (by kernel_rfl) rfl #[.slice A4 l4.length c4] rfl (by (try simp only [List.map_toArray, List.map_cons, List.map_nil]); first | done | rfl | (simp only [List.length_drop, List.length_take]; rfl)) ?_; (with_reducible refine (rubrickref06_Right.calls k _ _ l4 true _ ?side1 ?side2 A6.out).mono ?_); (case side1 => repeat (first | exact HR4.out | (with_reducible refine Kd.C_alloc ?_ _) | (with_reducible refine Kd.C_drewN ?_ _) | (with_reducible refine Kd.C_drew ?_))); (case side2 => exact HC4.out); rintro e w' ⟨rfl, ⟨nd, rfl⟩⟩; refine ⟨_, rfl, ?_⟩) | ((with_reducible refine gate_callee (f := 54) rfl ?_); refine goesL_ (some 32) rfl rfl Tryd.func54 (by kernel_rfl) rfl #[.int .i64 a0, .int .i64 a1, .bool true, .string a2, .slice A4 l4.length c4] rfl (by (try simp only [List.map_toArray, List.map_cons, List.map_nil]); first | done | rfl | (simp only [List.length_drop, List.length_take]; rfl)) ?_; (with_reducible refine (rubrickref07_Roots.calls k a0 a1 true a2 _ _ l4 t168 t169 true _ ?side1 ?side2 A12.out).mono ?_); (case side1 => repeat (first | exact HR4.out | (with_reducible refine Kd.C_alloc ?_ _) | (with_reducible refine Kd.C_drewN ?_ _) | (with_reducible refine Kd.C_drew ?_))); (case side2 => exact HC4.out); rintro e w16 ⟨rfl, hb⟩; refine ⟨_, rfl, ?_⟩; have n0_ := Aside0.mk (below_step (by repeat (first | (with_reducible first | exact HB.out | apply below_alloc | apply pw_below_drewN | apply below_drew1) | exact HB.out)) hb); clear HB; have HB := n0_; clear n0_; (try clear hb); (try clear hb2); (try clear hk); (try clear hi)))
     go_ret
     exact ⟨by first | rfl | (simp [errW_none, errW_some] <;> rfl) | (simp [*, errW_none, errW_some] <;> rfl), by repeat (first | (with_reducible first | exact HB.out | apply below_alloc | apply pw_below_drewN | apply below_drew1) | exact HB.out)⟩
   ·replace c13 := Bool.eq_false_iff.mpr c13
    subst c13
    have H1 : (some false) = some r := by rw [if_neg (show ¬ (false = true) by decide)] at H; exact H
    clear H
    have H := H1
    clear H1
    obtain rfl := Option.some.inj H
    go_enter Tryd.func22, Tryd.ntmps22
    go_wp2_with (first | ((with_reducible refine gate_callee (f := 17) rfl ?_); refine goesL_ (some 15) rfl rfl Tryd.func17 (by kernel_rfl) rfl #[.slice A4 l4.length c4] rfl (by (try simp only [List.map_toArray, List.map_cons, List.map_nil]); first | done | rfl | (simp only [List.length_drop, List.length_take]; rfl)) ?_; (with_reducible refine (rubrickref06_Right.calls k _ _ l4 true _ ?side1 ?side2 A6.out).mono ?_); (case side1 => repeat (first | exact HR4.out | (with_reducible refine Kd.C_alloc ?_ _) | (with_reducible refine Kd.C_drewN ?_ _) | (with_reducible refine Kd.C_drew ?_))); (case side2 => exact HC4.out); rintro e w' ⟨rfl, ⟨nd, rfl⟩⟩; refine ⟨_, rfl, ?_⟩) | ((with_reducible refine gate_callee (f := 54) rfl ?_); refine goesL_ (some 32) rfl rfl Tryd.func54 (by kernel_rfl) rfl #[.int .i64 a0, .int .i64 a1, .bool true, .string a2, .slice A4 l4.length c4] rfl (by (try simp only [List.map_toArray, List.map_cons, List.map_nil]); first | done | rfl | (simp only [List.length_drop, List.length_take]; rfl)) ?_; (with_reducible refine (rubrickref07_Roots.calls k a0 a1 true a2 _ _ l4 t168 t169 false _ ?side1 ?side2 A12.out).mono ?_); (case side1 => repeat (first | exact HR4.out | (with_reducible refine Kd.C_alloc ?_ _) | (with_reducible refine Kd.C_drewN ?_ _) | (with_reducible refine Kd.C_drew ?_))); (case side2 => exact HC4.out); rintro e w17 ⟨rfl, hb⟩; refine ⟨_, rfl, ?_⟩; have n0_ := Aside0.mk (below_step (by repeat (first | (with_reducible first | exact HB.out | apply below_alloc | apply pw_below_drewN | apply below_drew1) | exact HB.out)) hb); clear HB; have HB := n0_; clear n0_; (try clear hb); (try clear hb2); (try clear hk); (try clear hi)))
    go_ret
    exact ⟨by first | rfl | (simp [errW_none, errW_some] <;> rfl) | (simp [*, errW_none, errW_some] <;> rfl), by repeat (first | (with_reducible first | exact HB.out | apply below_alloc | apply pw_below_drewN | apply below_drew1) | exact HB.out)⟩
 ·replace c7 := Bool.eq_false_iff.mpr c7
  subst c7
  have H1 : (some false) = some r := by rw [if_neg (show ¬ (false = true) by decide)] at H; exact H
  clear H
  have H := H1
  clear H1
  obtain rfl := Option.some.inj H
  go_enter Tryd.func22, Tryd.ntmps22
  go_wp2_with (first | ((with_reducible refine gate_callee (f := 17) rfl ?_); refine goesL_ (some 15) rfl rfl Tryd.func17 (by kernel_rfl) rfl #[.slice A4 l4.length c4] rfl (by (try simp only [List.map_toArray, List.map_cons, List.map_nil]); first | done | rfl | (simp only [List.length_drop, List.length_take]; rfl)) ?_; (with_reducible refine (rubrickref06_Right.calls k _ _ l4 false _ ?side1 ?side2 A6.out).mono ?_); (case side1 => repeat (first | exact HR4.out | (with_reducible refine Kd.C_alloc ?_ _) | (with_reducible refine Kd.C_drewN ?_ _) | (with_reducible refine Kd.C_drew ?_))); (case side2 => exact HC4.out); rintro e w' ⟨rfl, ⟨nd, rfl⟩⟩; refine ⟨_, rfl, ?_⟩))
  go_ret
  exact ⟨by first | rfl | (simp [errW_none, errW_some] <;> rfl) | (simp [*, errW_none, errW_some] <;> rfl), by repeat (first | (with_reducible first | exact HB.out | apply below_alloc | apply pw_below_drewN | apply below_drew1) | exact HB.out)⟩
/-! ### rubrickref07_Fair: function 21 -/
def rubrickref07_Fair.f (a0 : Int) (a1 : Int) (a2 : ByteArray) (a3 : ByteArray) : Option (Bool) := if a0 ≥ 0 then (if a1 ≥ a0 then (if a1 ≤ 1099511627776 then (if (a2.size : Int) = 32 then (some ((a3.size : Int) == 32)) else (some false)) else (some false)) else (some false)) else (some false)
set_option maxHeartbeats 8000000 in
set_option maxRecDepth 100000 in
theorem rubrickref07_Fair.calls (a0 : Int) (a1 : Int) (a2 : ByteArray) (a3 : ByteArray) (r : Bool) (w : World) (h : rubrickref07_Fair.f a0 a1 a2 a3 = some r) :
  Calls Tryd.prog 21 #[.int .i64 a0, .int .i64 a1, .string a2, .string a3] w fun e w' => e = .returned (.bool r) ∧ Drawn0 w w' := by
 have H : (if a0 ≥ 0 then (if a1 ≥ a0 then (if a1 ≤ 1099511627776 then (if (a2.size : Int) = 32 then (some ((a3.size : Int) == 32)) else (some false)) else (some false)) else (some false)) else (some false)) = some r := h
 clear h
 by_cases c5 : a0 ≥ 0
 ·rw [if_pos c5] at H
  have c5b0 : decide (0 ≤ a0) = true := decide_eq_true c5
  clear c5
  by_cases c6 : a1 ≥ a0
  ·rw [if_pos c6] at H
   have c6b0 : decide (a0 ≤ a1) = true := decide_eq_true c6
   clear c6
   by_cases c7 : a1 ≤ 1099511627776
   ·rw [if_pos c7] at H
    have c7b0 : decide (a1 ≤ 1099511627776) = true := decide_eq_true c7
    clear c7
    by_cases c8 : (a2.size : Int) = 32
    ·rw [if_pos c8] at H
     have c8b0 : ((a2.size : Int) == 32) = true := beq_iff_eq.mpr c8
     have c8b1 : ((a2.size : Int) != 32) = false := bne_eq_false_iff_eq.mpr c8
     clear c8
     obtain rfl := Option.some.inj H
     go_enter Tryd.func21, Tryd.ntmps21
     go_wp2
     go_ret
     exact ⟨by first | rfl | (simp; done) | (simp [*]; done), by repeat (first | exact Drawn0.refl _ | apply Drawn0.step)⟩
    ·rw [if_neg c8] at H
     have c8b0 : ((a2.size : Int) == 32) = false := beq_eq_false_iff_ne.mpr c8
     have c8b1 : ((a2.size : Int) != 32) = true := bne_iff_ne.mpr c8
     obtain rfl := Option.some.inj H
     go_enter Tryd.func21, Tryd.ntmps21
     go_wp2
     go_ret
     exact ⟨by first | rfl | (simp; done) | (simp [*]; done), by repeat (first | exact Drawn0.refl _ | apply Drawn0.step)⟩
   ·rw [if_neg c7] at H
    have c7b0 : decide (a1 ≤ 1099511627776) = false := decide_eq_false c7
    clear c7
    obtain rfl := Option.some.inj H
    go_enter Tryd.func21, Tryd.ntmps21
    go_wp2
    go_ret
    exact ⟨by first | rfl | (simp; done) | (simp [*]; done), by repeat (first | exact Drawn0.refl _ | apply Drawn0.step)⟩
  ·rw [if_neg c6] at H
   have c6b0 : decide (a0 ≤ a1) = false := decide_eq_false c6
   clear c6
   obtain rfl := Option.some.inj H
   go_enter Tryd.func21, Tryd.ntmps21
   go_wp2
   go_ret
   exact ⟨by first | rfl | (simp; done) | (simp [*]; done), by repeat (first | exact Drawn0.refl _ | apply Drawn0.step)⟩
 ·rw [if_neg c5] at H
  have c5b0 : decide (0 ≤ a0) = false := decide_eq_false c5
  clear c5
  obtain rfl := Option.some.inj H
  go_enter Tryd.func21, Tryd.ntmps21
  go_wp2
  go_ret
  exact ⟨by first | rfl | (simp; done) | (simp [*]; done), by repeat (first | exact Drawn0.refl _ | apply Drawn0.step)⟩
end Go.Proofs.YtpmefpdafkbphaaDoor.PP

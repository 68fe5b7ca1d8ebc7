import Derived.Test.YtgcfhgkhokljcaaDoorZaHBulk
import Derived.Test.YtgcfhgkhokljcaaDoorProg
import Derived.Below
import Derived.Deep.Draws
import Derived.Deep.AppendLies
import Derived.Maps.AppendAt
import Derived.OwnWalk
import Derived.Laws.BytesArg
import Derived.Laws.MakeOwn
import Derived.Laws.OwnMore
import Derived.Deep.OwnRows
import Derived.Tactics
import Derived.Lib.ConvBytes
import Derived.Laws.Slices
import Derived.WalkKit
import Derived.KernelRfl
import Derived.RowKit3
import Derived.Deep.LoopGhost
import Derived.Deep.QuietTactic
import Derived.BigQuiet
import Derived.WideLaws
import Derived.Deep.DeepCutAuto
import Derived.Deep.CutBlock
import Derived.Deep.RegionHeld3
import Derived.Laws.Rows
import Derived.Lib.AppendStr
import Derived.ArgAppend
import Derived.Laws.IdiomCopy
import Derived.OrdersHeld
import Derived.Laws.BitsLemmas
import Derived.RowKit
import Derived.WalkMore
import Derived.Test.YtgcfhgkhokljcaaDoorZaHShaD
import Derived.Test.YtgcfhgkhokljcaaDoorZaPS
import Derived.Test.YtgcfhgkhokljcaaDoorZaPR
import Derived.Test.YtgcfhgkhokljcaaDoorZaPT
import Derived.Test.YtgcfhgkhokljcaaDoorZaPB
import Derived.Test.YtgcfhgkhokljcaaDoorZaHNode
import Derived.Test.YtgcfhgkhokljcaaDoorZaPC
import Derived.Test.YtgcfhgkhokljcaaDoorZaWWords
import Derived.Test.YtgcfhgkhokljcaaDoorZaWLast
import Derived.Test.YtgcfhgkhokljcaaDoorZaWTab
import Derived.Test.YtgcfhgkhokljcaaDoorZaWApart
import Derived.Test.YtgcfhgkhokljcaaDoorZaWFoot
import Derived.Test.YtgcfhgkhokljcaaDoorZaWKept
import Derived.Test.YtgcfhgkhokljcaaDoorZaWShare
import Derived.Test.YtgcfhgkhokljcaaDoorZaWN
import Derived.Laws.StructEq
import Derived.Test.YtgcfhgkhokljcaaDoorZaWRepsOne
import Derived.Test.YtgcfhgkhokljcaaDoorZaWInv
import Derived.Test.YtgcfhgkhokljcaaDoorZaWGuard
import Derived.Test.YtgcfhgkhokljcaaDoorZaWNEv
import Derived.Test.YtgcfhgkhokljcaaDoorZaWMore
-- PRINTED by print.py (a twelfth state) out of the translation. Not trusted: Lean checks it.
namespace Go.Proofs.YtgcfhgkhokljcaaDoor.PK
open Go.RowKit Go.Proofs.YtgcfhgkhokljcaaDoor Go.Proofs.YtgcfhgkhokljcaaDoor.HSha Go.Proofs.YtgcfhgkhokljcaaDoor.PS Go.Proofs.YtgcfhgkhokljcaaDoor.PR Go.Proofs.YtgcfhgkhokljcaaDoor.PT Go.Proofs.YtgcfhgkhokljcaaDoor.PB Go.Proofs.YtgcfhgkhokljcaaDoor.HNode Go.Proofs.YtgcfhgkhokljcaaDoor.PC Go.Proofs.YtgcfhgkhokljcaaDoorW.PrintWords Go.Proofs.YtgcfhgkhokljcaaDoorW.PrintLast Go.Proofs.YtgcfhgkhokljcaaDoorW.PrintMore
attribute [local go_sem] max2_int min2_int max_two min_two max_three min_three max_four min_four   -- for this text's walks alone
set_option linter.unusedVariables false
set_option linter.unusedSimpArgs false
def errW : Option Int → Value
 | none => .nilIface
 | some c => .iface 0 (.int .i64 c)
theorem errW_none : errW none = .nilIface := rfl
theorem errW_some (c : Int) : errW (some c) = .iface 0 (.int .i64 c) := rfl
theorem info5 : (Tryd.prog.info? 5).map (fun i => (i.zero, i.size, i.bytes)) = some (some (.int .u8 0), 1, 1) := by kernel_rfl
theorem info9 : (Tryd.prog.info? 9).map (fun i => (i.zero, i.size, i.bytes)) = some (some (.string ⟨#[]⟩), 1, 16) := by kernel_rfl
-- the values' own types
def rd_L1 (xs : List (List Int)) (i : Int) : (List Int) := xs.getD i.toNat ([] : List Int)
theorem at_L1 {w : World} {A : Option Addr} {n : Nat} {xs : List (List Int)} (h : Kd.C (Kd.slice 5 (Kd.int .u8)) w A n xs) (i : Int) (h0 : 0 ≤ i) (h1 : i < n) : ∃ ad A0 c0, A = some ad ∧ w.cell? (ad.add i.toNat) = some (.slice A0 (rd_L1 xs i).length c0) ∧ (rd_L1 xs i).length ≤ c0 ∧ (Kd.int .u8).C w A0 (rd_L1 xs i).length (rd_L1 xs i) := by
 obtain ⟨ad, c, e, _, hK, hc0⟩ := Kd.C_get h ([] : List Int) i h0 h1
 have hc : ∀ j u, c[j]? = some u → w.cell? (ad.add (i.toNat * 1 + j)) = some u := hc0
 obtain ⟨A0, c0, rfl, l0, g0⟩ := hK
 exact ⟨ad, A0, c0, e, by have hq := hc 0 _ rfl; rwa [Nat.mul_one, Nat.add_zero] at hq, l0, g0⟩
end Go.Proofs.YtgcfhgkhokljcaaDoor.PK
namespace Go.Proofs.YtgcfhgkhokljcaaDoor.PK
open Go.RowKit Go.Proofs.YtgcfhgkhokljcaaDoor Go.Proofs.YtgcfhgkhokljcaaDoor.HSha Go.Proofs.YtgcfhgkhokljcaaDoor.PS Go.Proofs.YtgcfhgkhokljcaaDoor.PR Go.Proofs.YtgcfhgkhokljcaaDoor.PT Go.Proofs.YtgcfhgkhokljcaaDoor.PB Go.Proofs.YtgcfhgkhokljcaaDoor.HNode Go.Proofs.YtgcfhgkhokljcaaDoor.PC Go.Proofs.YtgcfhgkhokljcaaDoorW.PrintWords Go.Proofs.YtgcfhgkhokljcaaDoorW.PrintLast Go.Proofs.YtgcfhgkhokljcaaDoorW.PrintMore
attribute [local go_sem] max2_int min2_int max_two min_two max_three min_three max_four min_four   -- for this text's walks alone
set_option linter.unusedVariables false
set_option linter.unusedSimpArgs false
/-! ### rubricklaw06_knows: function 12 -/
def rubricklaw06_knows.f (k : Nat)  : Option (Bool) := (tree_Leaves.f k (([(([1] : List Int)), (([2] : List Int)), (([3] : List Int))] : List (List Int)))).bind fun t113 => (if (t113.length : Int) = 3 then (if 0 < (t113.length : Int) then (if 1 < (t113.length : Int) then ((seal_Node.f k (rdOf ByteArray.empty t113 0) (rdOf ByteArray.empty t113 1)).bind fun bt118 => ((tree_Path.f k t113 2).bind fun bt120 => ((tree_Root.f k t113).bind fun bt124 => (if 2 < (t113.length : Int) then ((tree_Climb.f k (rdOf ByteArray.empty t113 2) 2 3 bt120.1).bind fun bt127 => ((tree_Root.f k ([] : List ByteArray)).bind fun bt129 => ((tree_Split.f k 2).bind fun t131 => (if t131 = 1 then ((tree_Split.f k 5).bind fun t132 => (if t132 = 4 then ((tree_Split.f k 8).bind fun t133 => (if t133 = 4 then (if (bt120.1.length : Int) = 1 then (if 0 < (bt120.1.length : Int) then (if (rdOf ByteArray.empty bt120.1 0).toList = bt118.1.toList then (if bt120.2 = 0 then (if bt124.1.toList = bt127.1.toList then (if bt124.2 = 0 then (if bt127.2 = 0 then ((sha_Sum.f ([] : List Int)).bind fun t135 => (some (bt129.1.toList == t135.toList))) else (some false)) else (some false)) else (some false)) else (some false)) else (some false)) else (none)) else (some false)) else (some false))) else (some false))) else (some false))))) else (none))))) else (none)) else (none)) else (some false))
theorem rubricklaw06_knows.mono : ∀ k, LeO (rubricklaw06_knows.f k ) (rubricklaw06_knows.f (k + 1) ) := by
 intro  k
 unfold rubricklaw06_knows.f
 repeat' first
   | (with_reducible exact seal_Node.mono _ _ _)
   | (with_reducible exact tree_Climb.mono _ _ _ _ _)
   | (with_reducible exact tree_Leaves.mono _ _)
   | (with_reducible exact tree_Path.mono _ _ _)
   | (with_reducible exact tree_Root.mono _ _)
   | (with_reducible exact tree_Split.mono _ _)
   | (with_reducible exact LeO.refl _)
   | (with_reducible exact LeO.none _)
   | (with_reducible refine LeO.ite ?_ ?_)
   | (with_reducible refine LeO.bind ?_ (fun _ => ?_))
def rubricklaw06_knows.T4 : Bool × List (List Nat × List Nat) := (true, [([], []), ([0], [0]), ([1], [1]), ([], []), ([3], [3]), ([4], [4]), ([2, 5], [2, 5]), ([6], [6]), ([7], [7]), ([7], [7]), ([8, 6, 0, 1, 2, 3, 4, 5, 6, 7, 8], [8]), ([9, 10, 0, 1, 2, 3, 4, 5, 6, 7, 8, 9, 10], [9])])
def rubricklaw06_knows.B4 : List Nat := [0, 1, 3, 0, 8, 24, 63, 127, 255, 255, 511, 2047]
theorem rubricklaw06_knows.tab4 : rtab .any (opsOf Tryd.f12 4) = rubricklaw06_knows.T4 := by kernel_rfl
theorem rubricklaw06_knows.bits4 : waitsOk rubricklaw06_knows.T4.2 rubricklaw06_knows.B4 = true := by kernel_rfl
set_option maxRecDepth 1000000 in
theorem rubricklaw06_knows.sure : rubricklaw06_knows.f 60 = some true := by decide +kernel
theorem rubricklaw06_knows.only (k : Nat) (r : Bool) (h : rubricklaw06_knows.f k = some r) : r = true := by
 have u : ∀ d, rubricklaw06_knows.f (60 + d) = some true := fun d => by
  induction d with
  | zero => exact rubricklaw06_knows.sure
  | succ d ih => exact rubricklaw06_knows.mono _ _ ih
 have v : ∀ d, rubricklaw06_knows.f (k + d) = some r := fun d => by
  induction d with
  | zero => exact h
  | succ d ih => exact rubricklaw06_knows.mono _ _ ih
 have e := v 60
 rw [Nat.add_comm, u k] at e
 exact (Option.some.inj e).symm
set_option maxHeartbeats 8000000 in
set_option maxRecDepth 100000 in
theorem rubricklaw06_knows.calls (k : Nat)  (r : Bool) (w : World) (hG_ : Aside0 (GW w)) (h : rubricklaw06_knows.f k  = some r) :
  Calls Tryd.prog 12 #[] w fun e w' => e = .returned (.bool r) ∧ Below w.heap.size w w' := by
 have HB := Aside0.mk (Below.refl w.heap.size w)
 obtain rfl := rubricklaw06_knows.only k r h
 have H : ((tree_Leaves.f k (([(([1] : List Int)), (([2] : List Int)), (([3] : List Int))] : List (List Int)))).bind fun t113 => (if (t113.length : Int) = 3 then (if 0 < (t113.length : Int) then (if 1 < (t113.length : Int) then ((seal_Node.f k (rdOf ByteArray.empty t113 0) (rdOf ByteArray.empty t113 1)).bind fun bt118 => ((tree_Path.f k t113 2).bind fun bt120 => ((tree_Root.f k t113).bind fun bt124 => (if 2 < (t113.length : Int) then ((tree_Climb.f k (rdOf ByteArray.empty t113 2) 2 3 bt120.1).bind fun bt127 => ((tree_Root.f k ([] : List ByteArray)).bind fun bt129 => ((tree_Split.f k 2).bind fun t131 => (if t131 = 1 then ((tree_Split.f k 5).bind fun t132 => (if t132 = 4 then ((tree_Split.f k 8).bind fun t133 => (if t133 = 4 then (if (bt120.1.length : Int) = 1 then (if 0 < (bt120.1.length : Int) then (if (rdOf ByteArray.empty bt120.1 0).toList = bt118.1.toList then (if bt120.2 = 0 then (if bt124.1.toList = bt127.1.toList then (if bt124.2 = 0 then (if bt127.2 = 0 then ((sha_Sum.f ([] : List Int)).bind fun t135 => (some (bt129.1.toList == t135.toList))) else (some false)) else (some false)) else (some false)) else (some false)) else (some false)) else (none)) else (some false)) else (some false))) else (some false))) else (some false))))) else (none))))) else (none)) else (none)) else (some false))) = some true := h
 clear h
 obtain ⟨y101, hy101⟩ : ∃ y_ : List Int, y_ = (([1] : List Int)) := ⟨_, rfl⟩
 replace H : ((tree_Leaves.f k (([y101, (([2] : List Int)), (([3] : List Int))] : List (List Int)))).bind fun t113 => (if (t113.length : Int) = 3 then (if 0 < (t113.length : Int) then (if 1 < (t113.length : Int) then ((seal_Node.f k (rdOf ByteArray.empty t113 0) (rdOf ByteArray.empty t113 1)).bind fun bt118 => ((tree_Path.f k t113 2).bind fun bt120 => ((tree_Root.f k t113).bind fun bt124 => (if 2 < (t113.length : Int) then ((tree_Climb.f k (rdOf ByteArray.empty t113 2) 2 3 bt120.1).bind fun bt127 => ((tree_Root.f k ([] : List ByteArray)).bind fun bt129 => ((tree_Split.f k 2).bind fun t131 => (if t131 = 1 then ((tree_Split.f k 5).bind fun t132 => (if t132 = 4 then ((tree_Split.f k 8).bind fun t133 => (if t133 = 4 then (if (bt120.1.length : Int) = 1 then (if 0 < (bt120.1.length : Int) then (if (rdOf ByteArray.empty bt120.1 0).toList = bt118.1.toList then (if bt120.2 = 0 then (if bt124.1.toList = bt127.1.toList then (if bt124.2 = 0 then (if bt127.2 = 0 then ((sha_Sum.f ([] : List Int)).bind fun t135 => (some (bt129.1.toList == t135.toList))) else (some false)) else (some false)) else (some false)) else (some false)) else (some false)) else (none)) else (some false)) else (some false))) else (some false))) else (some false))))) else (none))))) else (none)) else (none)) else (some false))) = some true := by first | (rw [hy101]; with_reducible exact H) | (have H2_ := (Option.bind_some _ _).symm.trans H; rw [hy101]; with_reducible exact H2_) | (have H2_ := (Option.bind_some _ _).symm.trans H; with_reducible exact H2_) | with_reducible exact H | (rw [hy101]; exact H) | exact H
 have Ny101 := Aside0.mk hy101
 clear hy101
 obtain ⟨y104, hy104⟩ : ∃ y_ : List Int, y_ = (([2] : List Int)) := ⟨_, rfl⟩
 replace H : ((tree_Leaves.f k (([y101, y104, (([3] : List Int))] : List (List Int)))).bind fun t113 => (if (t113.length : Int) = 3 then (if 0 < (t113.length : Int) then (if 1 < (t113.length : Int) then ((seal_Node.f k (rdOf ByteArray.empty t113 0) (rdOf ByteArray.empty t113 1)).bind fun bt118 => ((tree_Path.f k t113 2).bind fun bt120 => ((tree_Root.f k t113).bind fun bt124 => (if 2 < (t113.length : Int) then ((tree_Climb.f k (rdOf ByteArray.empty t113 2) 2 3 bt120.1).bind fun bt127 => ((tree_Root.f k ([] : List ByteArray)).bind fun bt129 => ((tree_Split.f k 2).bind fun t131 => (if t131 = 1 then ((tree_Split.f k 5).bind fun t132 => (if t132 = 4 then ((tree_Split.f k 8).bind fun t133 => (if t133 = 4 then (if (bt120.1.length : Int) = 1 then (if 0 < (bt120.1.length : Int) then (if (rdOf ByteArray.empty bt120.1 0).toList = bt118.1.toList then (if bt120.2 = 0 then (if bt124.1.toList = bt127.1.toList then (if bt124.2 = 0 then (if bt127.2 = 0 then ((sha_Sum.f ([] : List Int)).bind fun t135 => (some (bt129.1.toList == t135.toList))) else (some false)) else (some false)) else (some false)) else (some false)) else (some false)) else (none)) else (some false)) else (some false))) else (some false))) else (some false))))) else (none))))) else (none)) else (none)) else (some false))) = some true := by first | (rw [hy104]; with_reducible exact H) | (have H2_ := (Option.bind_some _ _).symm.trans H; rw [hy104]; with_reducible exact H2_) | (have H2_ := (Option.bind_some _ _).symm.trans H; with_reducible exact H2_) | with_reducible exact H | (rw [hy104]; exact H) | exact H
 have Ny104 := Aside0.mk hy104
 clear hy104
 obtain ⟨y107, hy107⟩ : ∃ y_ : List Int, y_ = (([3] : List Int)) := ⟨_, rfl⟩
 replace H : ((tree_Leaves.f k (([y101, y104, y107] : List (List Int)))).bind fun t113 => (if (t113.length : Int) = 3 then (if 0 < (t113.length : Int) then (if 1 < (t113.length : Int) then ((seal_Node.f k (rdOf ByteArray.empty t113 0) (rdOf ByteArray.empty t113 1)).bind fun bt118 => ((tree_Path.f k t113 2).bind fun bt120 => ((tree_Root.f k t113).bind fun bt124 => (if 2 < (t113.length : Int) then ((tree_Climb.f k (rdOf ByteArray.empty t113 2) 2 3 bt120.1).bind fun bt127 => ((tree_Root.f k ([] : List ByteArray)).bind fun bt129 => ((tree_Split.f k 2).bind fun t131 => (if t131 = 1 then ((tree_Split.f k 5).bind fun t132 => (if t132 = 4 then ((tree_Split.f k 8).bind fun t133 => (if t133 = 4 then (if (bt120.1.length : Int) = 1 then (if 0 < (bt120.1.length : Int) then (if (rdOf ByteArray.empty bt120.1 0).toList = bt118.1.toList then (if bt120.2 = 0 then (if bt124.1.toList = bt127.1.toList then (if bt124.2 = 0 then (if bt127.2 = 0 then ((sha_Sum.f ([] : List Int)).bind fun t135 => (some (bt129.1.toList == t135.toList))) else (some false)) else (some false)) else (some false)) else (some false)) else (some false)) else (none)) else (some false)) else (some false))) else (some false))) else (some false))))) else (none))))) else (none)) else (none)) else (some false))) = some true := by first | (rw [hy107]; with_reducible exact H) | (have H2_ := (Option.bind_some _ _).symm.trans H; rw [hy107]; with_reducible exact H2_) | (have H2_ := (Option.bind_some _ _).symm.trans H; with_reducible exact H2_) | with_reducible exact H | (rw [hy107]; exact H) | exact H
 have Ny107 := Aside0.mk hy107
 clear hy107
 obtain ⟨y110, hy110⟩ : ∃ y_ : List (List Int), y_ = (([y101, y104, y107] : List (List Int))) := ⟨_, rfl⟩
 replace H : ((tree_Leaves.f k y110).bind fun t113 => (if (t113.length : Int) = 3 then (if 0 < (t113.length : Int) then (if 1 < (t113.length : Int) then ((seal_Node.f k (rdOf ByteArray.empty t113 0) (rdOf ByteArray.empty t113 1)).bind fun bt118 => ((tree_Path.f k t113 2).bind fun bt120 => ((tree_Root.f k t113).bind fun bt124 => (if 2 < (t113.length : Int) then ((tree_Climb.f k (rdOf ByteArray.empty t113 2) 2 3 bt120.1).bind fun bt127 => ((tree_Root.f k ([] : List ByteArray)).bind fun bt129 => ((tree_Split.f k 2).bind fun t131 => (if t131 = 1 then ((tree_Split.f k 5).bind fun t132 => (if t132 = 4 then ((tree_Split.f k 8).bind fun t133 => (if t133 = 4 then (if (bt120.1.length : Int) = 1 then (if 0 < (bt120.1.length : Int) then (if (rdOf ByteArray.empty bt120.1 0).toList = bt118.1.toList then (if bt120.2 = 0 then (if bt124.1.toList = bt127.1.toList then (if bt124.2 = 0 then (if bt127.2 = 0 then ((sha_Sum.f ([] : List Int)).bind fun t135 => (some (bt129.1.toList == t135.toList))) else (some false)) else (some false)) else (some false)) else (some false)) else (some false)) else (none)) else (some false)) else (some false))) else (some false))) else (some false))))) else (none))))) else (none)) else (none)) else (some false))) = some true := by first | (rw [hy110]; with_reducible exact H) | (have H2_ := (Option.bind_some _ _).symm.trans H; rw [hy110]; with_reducible exact H2_) | (have H2_ := (Option.bind_some _ _).symm.trans H; with_reducible exact H2_) | with_reducible exact H | (rw [hy110]; exact H) | exact H
 have Ny110 := Aside0.mk hy110
 clear hy110
 replace H := Option.bind_eq_some_iff.mp H
 obtain ⟨t113, A10, H⟩ := H
 replace H : (if (t113.length : Int) = 3 then (if 0 < (t113.length : Int) then (if 1 < (t113.length : Int) then ((seal_Node.f k (rdOf ByteArray.empty t113 0) (rdOf ByteArray.empty t113 1)).bind fun bt118 => ((tree_Path.f k t113 2).bind fun bt120 => ((tree_Root.f k t113).bind fun bt124 => (if 2 < (t113.length : Int) then ((tree_Climb.f k (rdOf ByteArray.empty t113 2) 2 3 bt120.1).bind fun bt127 => ((tree_Root.f k ([] : List ByteArray)).bind fun bt129 => ((tree_Split.f k 2).bind fun t131 => (if t131 = 1 then ((tree_Split.f k 5).bind fun t132 => (if t132 = 4 then ((tree_Split.f k 8).bind fun t133 => (if t133 = 4 then (if (bt120.1.length : Int) = 1 then (if 0 < (bt120.1.length : Int) then (if (rdOf ByteArray.empty bt120.1 0).toList = bt118.1.toList then (if bt120.2 = 0 then (if bt124.1.toList = bt127.1.toList then (if bt124.2 = 0 then (if bt127.2 = 0 then ((sha_Sum.f ([] : List Int)).bind fun t135 => (some (bt129.1.toList == t135.toList))) else (some false)) else (some false)) else (some false)) else (some false)) else (some false)) else (none)) else (some false)) else (some false))) else (some false))) else (some false))))) else (none))))) else (none)) else (none)) else (some false)) = some true := H
 have A1 := Aside0.mk A10
 clear A10
 by_cases c2 : (t113.length : Int) = 3
 ·rw [if_pos c2] at H
  have c2b0 : ((t113.length : Int) == 3) = true := beq_iff_eq.mpr c2
  have c2b1 : ((t113.length : Int) != 3) = false := bne_eq_false_iff_eq.mpr c2
  clear c2
  by_cases c3 : 0 < (t113.length : Int)
  ·rw [if_pos c3] at H
   have c3b0 : decide (0 < (t113.length : Int)) = true := decide_eq_true c3
   have c3b1 : decide (0 < t113.length) = true := decide_eq_true (by omega)
   clear c3
   by_cases c4 : 1 < (t113.length : Int)
   ·rw [if_pos c4] at H
    have c4b0 : decide (1 < (t113.length : Int)) = true := decide_eq_true c4
    have c4b1 : decide (1 < t113.length) = true := decide_eq_true (by omega)
    clear c4
    replace H := Option.bind_eq_some_iff.mp H
    obtain ⟨⟨t118, t119⟩, A50, H⟩ := H
    replace H : ((tree_Path.f k t113 2).bind fun bt120 => ((tree_Root.f k t113).bind fun bt124 => (if 2 < (t113.length : Int) then ((tree_Climb.f k (rdOf ByteArray.empty t113 2) 2 3 bt120.1).bind fun bt127 => ((tree_Root.f k ([] : List ByteArray)).bind fun bt129 => ((tree_Split.f k 2).bind fun t131 => (if t131 = 1 then ((tree_Split.f k 5).bind fun t132 => (if t132 = 4 then ((tree_Split.f k 8).bind fun t133 => (if t133 = 4 then (if (bt120.1.length : Int) = 1 then (if 0 < (bt120.1.length : Int) then (if (rdOf ByteArray.empty bt120.1 0).toList = t118.toList then (if bt120.2 = 0 then (if bt124.1.toList = bt127.1.toList then (if bt124.2 = 0 then (if bt127.2 = 0 then ((sha_Sum.f ([] : List Int)).bind fun t135 => (some (bt129.1.toList == t135.toList))) else (some false)) else (some false)) else (some false)) else (some false)) else (some false)) else (none)) else (some false)) else (some false))) else (some false))) else (some false))))) else (none)))) = some true := H
    have A5 := Aside0.mk A50
    clear A50
    replace H := Option.bind_eq_some_iff.mp H
    obtain ⟨⟨t120, t123⟩, A60, H⟩ := H
    replace H : ((tree_Root.f k t113).bind fun bt124 => (if 2 < (t113.length : Int) then ((tree_Climb.f k (rdOf ByteArray.empty t113 2) 2 3 t120).bind fun bt127 => ((tree_Root.f k ([] : List ByteArray)).bind fun bt129 => ((tree_Split.f k 2).bind fun t131 => (if t131 = 1 then ((tree_Split.f k 5).bind fun t132 => (if t132 = 4 then ((tree_Split.f k 8).bind fun t133 => (if t133 = 4 then (if (t120.length : Int) = 1 then (if 0 < (t120.length : Int) then (if (rdOf ByteArray.empty t120 0).toList = t118.toList then (if t123 = 0 then (if bt124.1.toList = bt127.1.toList then (if bt124.2 = 0 then (if bt127.2 = 0 then ((sha_Sum.f ([] : List Int)).bind fun t135 => (some (bt129.1.toList == t135.toList))) else (some false)) else (some false)) else (some false)) else (some false)) else (some false)) else (none)) else (some false)) else (some false))) else (some false))) else (some false))))) else (none))) = some true := H
    have A6 := Aside0.mk A60
    clear A60
    replace H := Option.bind_eq_some_iff.mp H
    obtain ⟨⟨t124, t125⟩, A70, H⟩ := H
    replace H : (if 2 < (t113.length : Int) then ((tree_Climb.f k (rdOf ByteArray.empty t113 2) 2 3 t120).bind fun bt127 => ((tree_Root.f k ([] : List ByteArray)).bind fun bt129 => ((tree_Split.f k 2).bind fun t131 => (if t131 = 1 then ((tree_Split.f k 5).bind fun t132 => (if t132 = 4 then ((tree_Split.f k 8).bind fun t133 => (if t133 = 4 then (if (t120.length : Int) = 1 then (if 0 < (t120.length : Int) then (if (rdOf ByteArray.empty t120 0).toList = t118.toList then (if t123 = 0 then (if t124.toList = bt127.1.toList then (if t125 = 0 then (if bt127.2 = 0 then ((sha_Sum.f ([] : List Int)).bind fun t135 => (some (bt129.1.toList == t135.toList))) else (some false)) else (some false)) else (some false)) else (some false)) else (some false)) else (none)) else (some false)) else (some false))) else (some false))) else (some false))))) else (none)) = some true := H
    have A7 := Aside0.mk A70
    clear A70
    by_cases c8 : 2 < (t113.length : Int)
    ·rw [if_pos c8] at H
     have c8b0 : decide (2 < (t113.length : Int)) = true := decide_eq_true c8
     have c8b1 : decide (2 < t113.length) = true := decide_eq_true (by omega)
     clear c8
     replace H := Option.bind_eq_some_iff.mp H
     obtain ⟨⟨t127, t128⟩, A90, H⟩ := H
     replace H : ((tree_Root.f k ([] : List ByteArray)).bind fun bt129 => ((tree_Split.f k 2).bind fun t131 => (if t131 = 1 then ((tree_Split.f k 5).bind fun t132 => (if t132 = 4 then ((tree_Split.f k 8).bind fun t133 => (if t133 = 4 then (if (t120.length : Int) = 1 then (if 0 < (t120.length : Int) then (if (rdOf ByteArray.empty t120 0).toList = t118.toList then (if t123 = 0 then (if t124.toList = t127.toList then (if t125 = 0 then (if t128 = 0 then ((sha_Sum.f ([] : List Int)).bind fun t135 => (some (bt129.1.toList == t135.toList))) else (some false)) else (some false)) else (some false)) else (some false)) else (some false)) else (none)) else (some false)) else (some false))) else (some false))) else (some false)))) = some true := H
     have A9 := Aside0.mk A90
     clear A90
     replace H := Option.bind_eq_some_iff.mp H
     obtain ⟨⟨t129, t130⟩, A100, H⟩ := H
     replace H : ((tree_Split.f k 2).bind fun t131 => (if t131 = 1 then ((tree_Split.f k 5).bind fun t132 => (if t132 = 4 then ((tree_Split.f k 8).bind fun t133 => (if t133 = 4 then (if (t120.length : Int) = 1 then (if 0 < (t120.length : Int) then (if (rdOf ByteArray.empty t120 0).toList = t118.toList then (if t123 = 0 then (if t124.toList = t127.toList then (if t125 = 0 then (if t128 = 0 then ((sha_Sum.f ([] : List Int)).bind fun t135 => (some (t129.toList == t135.toList))) else (some false)) else (some false)) else (some false)) else (some false)) else (some false)) else (none)) else (some false)) else (some false))) else (some false))) else (some false))) = some true := H
     have A10 := Aside0.mk A100
     clear A100
     replace H := Option.bind_eq_some_iff.mp H
     obtain ⟨t131, A110, H⟩ := H
     replace H : (if t131 = 1 then ((tree_Split.f k 5).bind fun t132 => (if t132 = 4 then ((tree_Split.f k 8).bind fun t133 => (if t133 = 4 then (if (t120.length : Int) = 1 then (if 0 < (t120.length : Int) then (if (rdOf ByteArray.empty t120 0).toList = t118.toList then (if t123 = 0 then (if t124.toList = t127.toList then (if t125 = 0 then (if t128 = 0 then ((sha_Sum.f ([] : List Int)).bind fun t135 => (some (t129.toList == t135.toList))) else (some false)) else (some false)) else (some false)) else (some false)) else (some false)) else (none)) else (some false)) else (some false))) else (some false))) else (some false)) = some true := H
     have A11 := Aside0.mk A110
     clear A110
     by_cases c12 : t131 = 1
     ·rw [if_pos c12] at H
      have c12b0 : (t131 == 1) = true := beq_iff_eq.mpr c12
      have c12b1 : (t131 != 1) = false := bne_eq_false_iff_eq.mpr c12
      clear c12
      replace H := Option.bind_eq_some_iff.mp H
      obtain ⟨t132, A130, H⟩ := H
      replace H : (if t132 = 4 then ((tree_Split.f k 8).bind fun t133 => (if t133 = 4 then (if (t120.length : Int) = 1 then (if 0 < (t120.length : Int) then (if (rdOf ByteArray.empty t120 0).toList = t118.toList then (if t123 = 0 then (if t124.toList = t127.toList then (if t125 = 0 then (if t128 = 0 then ((sha_Sum.f ([] : List Int)).bind fun t135 => (some (t129.toList == t135.toList))) else (some false)) else (some false)) else (some false)) else (some false)) else (some false)) else (none)) else (some false)) else (some false))) else (some false)) = some true := H
      have A13 := Aside0.mk A130
      clear A130
      by_cases c14 : t132 = 4
      ·rw [if_pos c14] at H
       have c14b0 : (t132 == 4) = true := beq_iff_eq.mpr c14
       have c14b1 : (t132 != 4) = false := bne_eq_false_iff_eq.mpr c14
       clear c14
       replace H := Option.bind_eq_some_iff.mp H
       obtain ⟨t133, A150, H⟩ := H
       replace H : (if t133 = 4 then (if (t120.length : Int) = 1 then (if 0 < (t120.length : Int) then (if (rdOf ByteArray.empty t120 0).toList = t118.toList then (if t123 = 0 then (if t124.toList = t127.toList then (if t125 = 0 then (if t128 = 0 then ((sha_Sum.f ([] : List Int)).bind fun t135 => (some (t129.toList == t135.toList))) else (some false)) else (some false)) else (some false)) else (some false)) else (some false)) else (none)) else (some false)) else (some false)) = some true := H
       have A15 := Aside0.mk A150
       clear A150
       by_cases c16 : t133 = 4
       ·rw [if_pos c16] at H
        have c16b0 : (t133 == 4) = true := beq_iff_eq.mpr c16
        have c16b1 : (t133 != 4) = false := bne_eq_false_iff_eq.mpr c16
        clear c16
        by_cases c17 : (t120.length : Int) = 1
        ·rw [if_pos c17] at H
         have c17b0 : ((t120.length : Int) == 1) = true := beq_iff_eq.mpr c17
         have c17b1 : ((t120.length : Int) != 1) = false := bne_eq_false_iff_eq.mpr c17
         clear c17
         by_cases c18 : 0 < (t120.length : Int)
         ·rw [if_pos c18] at H
          have c18b0 : decide (0 < (t120.length : Int)) = true := decide_eq_true c18
          have c18b1 : decide (0 < t120.length) = true := decide_eq_true (by omega)
          clear c18
          by_cases c19 : (rdOf ByteArray.empty t120 0).toList = t118.toList
          ·rw [if_pos c19] at H
           have c19b0 : ((rdOf ByteArray.empty t120 0).toList == t118.toList) = true := beq_iff_eq.mpr c19
           have c19b1 : ((rdOf ByteArray.empty t120 0).toList != t118.toList) = false := bne_eq_false_iff_eq.mpr c19
           clear c19
           by_cases c20 : t123 = 0
           ·rw [if_pos c20] at H
            have c20b0 : (t123 == 0) = true := beq_iff_eq.mpr c20
            have c20b1 : (t123 != 0) = false := bne_eq_false_iff_eq.mpr c20
            clear c20
            by_cases c21 : t124.toList = t127.toList
            ·rw [if_pos c21] at H
             have c21b0 : (t124.toList == t127.toList) = true := beq_iff_eq.mpr c21
             have c21b1 : (t124.toList != t127.toList) = false := bne_eq_false_iff_eq.mpr c21
             clear c21
             by_cases c22 : t125 = 0
             ·rw [if_pos c22] at H
              have c22b0 : (t125 == 0) = true := beq_iff_eq.mpr c22
              have c22b1 : (t125 != 0) = false := bne_eq_false_iff_eq.mpr c22
              clear c22
              by_cases c23 : t128 = 0
              ·rw [if_pos c23] at H
               have c23b0 : (t128 == 0) = true := beq_iff_eq.mpr c23
               have c23b1 : (t128 != 0) = false := bne_eq_false_iff_eq.mpr c23
               clear c23
               replace H := Option.bind_eq_some_iff.mp H
               obtain ⟨t135, A240, H⟩ := H
               replace H : (some (t129.toList == t135.toList)) = some true := H
               have A24 := Aside0.mk A240
               clear A240
               have HT2_ := Aside0.mk (Option.some.inj H)
               clear H
               go_enter Tryd.func12, Tryd.ntmps12
               try go_wp2_with (first | ((with_reducible refine gate_dst (N := 12) rfl ?_); (try (refine gate_guard (by rfl) ?_; dsimp only)); refine Kd.R_lit (Kd.int .u8) _ 5 ?hg (N := 12) ?hd (xs := ([1] : List Int)) (inner := [.int .u8 1]) (ok := fun _ => True) (okp := fun _ => True) ?hr ?hp (fun _ hk => hk) trivial (Below.refl _ _) (Nat.le_refl _) (by simp) ?_; (case hd => rfl); (case hg => rfl); (case hr => first | (go_simp; done) | (go_simp; rfl)); (case hp => exact (Reps.one (show Kd.M (Kd.int .u8) _ _ _ 1 [.int .u8 1] from rfl) (Reps.none _ _))); intro v102 w25 ho26 hb hg_ hnew_; clear hg_ hnew_; (first | rw [← Ny101.out] at ho26 | (simp only [Int.reduceToNat] at ho26; rw [← Ny101.out] at ho26)); have n0_ := Aside0.mk (Kd.R_lower ho26 (below_size (by repeat (first | (with_reducible first | exact HB.out | apply below_alloc | apply pw_below_drewN | apply below_drew1) | exact HB.out)))); have n1_ := Aside0.mk (below_step (by repeat (first | (with_reducible first | exact HB.out | apply below_alloc | apply pw_below_drewN | apply below_drew1) | exact HB.out)) hb); clear HB; have HO103 := n0_; have HB := n1_; clear n0_ n1_; clear hb ho26) | ((with_reducible refine gate_dst (N := 13) rfl ?_); (try (refine gate_guard (by rfl) ?_; dsimp only)); refine Kd.R_lit (Kd.int .u8) _ 5 ?hg (N := 13) ?hd (xs := ([2] : List Int)) (inner := [.int .u8 2]) (ok := fun _ => True) (okp := fun _ => True) ?hr ?hp (fun _ hk => hk) trivial (Below.refl _ _) (Nat.le_refl _) (by simp) ?_; (case hd => rfl); (case hg => rfl); (case hr => first | (go_simp; done) | (go_simp; rfl)); (case hp => exact (Reps.one (show Kd.M (Kd.int .u8) _ _ _ 2 [.int .u8 2] from rfl) (Reps.none _ _))); intro v105 w27 ho28 hb hg_ hnew_; clear hg_ hnew_; (first | rw [← Ny104.out] at ho28 | (simp only [Int.reduceToNat] at ho28; rw [← Ny104.out] at ho28)); have n0_ := Aside0.mk (Kd.R_elder' (by (with_reducible repeat (first | apply Kd.R_alloc | apply Kd.R_drewN | apply Kd.R_drew)); exact HO103.out) (Kd.R_base ho28) hb); have n1_ := Aside0.mk (Kd.R_lower (Kd.R_new' ho28 (Kd.R_lt (by (with_reducible repeat (first | apply Kd.R_alloc | apply Kd.R_drewN | apply Kd.R_drew)); exact HO103.out))) (below_size (by repeat (first | (with_reducible first | exact HB.out | apply below_alloc | apply pw_below_drewN | apply below_drew1) | exact HB.out)))); have n2_ := Aside0.mk (below_step (by repeat (first | (with_reducible first | exact HB.out | apply below_alloc | apply pw_below_drewN | apply below_drew1) | exact HB.out)) hb); clear HO103; clear HB; have HO103 := n0_; have HO106 := n1_; have HB := n2_; clear n0_ n1_ n2_; clear hb ho28) | ((with_reducible refine gate_dst (N := 14) rfl ?_); (try (refine gate_guard (by rfl) ?_; dsimp only)); refine Kd.R_lit (Kd.int .u8) _ 5 ?hg (N := 14) ?hd (xs := ([3] : List Int)) (inner := [.int .u8 3]) (ok := fun _ => True) (okp := fun _ => True) ?hr ?hp (fun _ hk => hk) trivial (Below.refl _ _) (Nat.le_refl _) (by simp) ?_; (case hd => rfl); (case hg => rfl); (case hr => first | (go_simp; done) | (go_simp; rfl)); (case hp => exact (Reps.one (show Kd.M (Kd.int .u8) _ _ _ 3 [.int .u8 3] from rfl) (Reps.none _ _))); intro v108 w29 ho30 hb hg_ hnew_; clear hg_ hnew_; (first | rw [← Ny107.out] at ho30 | (simp only [Int.reduceToNat] at ho30; rw [← Ny107.out] at ho30)); have n0_ := Aside0.mk (Kd.R_elder' (by (with_reducible repeat (first | apply Kd.R_alloc | apply Kd.R_drewN | apply Kd.R_drew)); exact HO103.out) (Kd.R_base ho30) hb); have n1_ := Aside0.mk (Kd.R_elder' (by (with_reducible repeat (first | apply Kd.R_alloc | apply Kd.R_drewN | apply Kd.R_drew)); exact HO106.out) (Kd.R_base ho30) hb); have n2_ := Aside0.mk (Kd.R_lower (Kd.R_new' (Kd.R_new' ho30 (Kd.R_lt (by (with_reducible repeat (first | apply Kd.R_alloc | apply Kd.R_drewN | apply Kd.R_drew)); exact HO103.out))) (Kd.R_lt (by (with_reducible repeat (first | apply Kd.R_alloc | apply Kd.R_drewN | apply Kd.R_drew)); exact HO106.out))) (below_size (by repeat (first | (with_reducible first | exact HB.out | apply below_alloc | apply pw_below_drewN | apply below_drew1) | exact HB.out)))); have n3_ := Aside0.mk (below_step (by repeat (first | (with_reducible first | exact HB.out | apply below_alloc | apply pw_below_drewN | apply below_drew1) | exact HB.out)) hb); clear HO103; clear HO106; clear HB; have HO103 := n0_; have HO106 := n1_; have HO109 := n2_; have HB := n3_; clear n0_ n1_ n2_ n3_; clear hb ho30; obtain ⟨Ao31, co31, eo31⟩ := Kd.R_slice HO103.out; subst eo31; obtain ⟨Ao32, co32, eo32⟩ := Kd.R_slice HO106.out; subst eo32; obtain ⟨Ao33, co33, eo33⟩ := Kd.R_slice HO109.out; subst eo33) | ((with_reducible refine gate_dst (N := 15) rfl ?_); (try (refine gate_guard (by rfl) ?_; dsimp only)); refine Kd.N_lit (Kd.slice 5 (Kd.int .u8)) _ 43 ?hg (N' := 15) ?hd (xs := ([y101, y104, y107] : List (List Int))) (inner := [.slice Ao31 y101.length co31, .slice Ao32 y104.length co32, .slice Ao33 y107.length co33]) (ok := (fun _ => True)) (okp := (fun _ => True)) ?hr ?hp (fun _ hk => hk) ((show ∀ k_, w29.heap.size ≤ k_ → (fun _ => True) k_ from fun k_ hk => trivial) _ (Nat.le_refl _)) (Below.refl _ _) (Nat.le_refl _) (by simp) ?_; (case hd => rfl); (case hg => rfl); (case hr => first | (go_simp; done) | (go_simp; rfl)); (case hp => exact (Reps.one (show Kd.FK (Kd.slice 5 (Kd.int .u8)) _ _ y101 [.slice Ao31 y101.length co31] from (Kd.FK_slice_mk (Kd.R_reads' (Kd.R_mono (ok' := (fun _ => True)) (HO103.out) (fun k_ hk => trivial))).2.1 (Kd.R_F (Kd.R_mono (ok' := (fun _ => True)) (HO103.out) (fun k_ hk => trivial))))) (Reps.one (show Kd.FK (Kd.slice 5 (Kd.int .u8)) _ _ y104 [.slice Ao32 y104.length co32] from (Kd.FK_slice_mk (Kd.R_reads' (Kd.R_mono (ok' := (fun _ => True)) (HO106.out) (fun k_ hk => trivial))).2.1 (Kd.R_F (Kd.R_mono (ok' := (fun _ => True)) (HO106.out) (fun k_ hk => trivial))))) (Reps.one (show Kd.FK (Kd.slice 5 (Kd.int .u8)) _ _ y107 [.slice Ao33 y107.length co33] from (Kd.FK_slice_mk (Kd.R_reads' (Kd.R_mono (ok' := (fun _ => True)) (HO109.out) (fun k_ hk => trivial))).2.1 (Kd.R_F (Kd.R_mono (ok' := (fun _ => True)) (HO109.out) (fun k_ hk => trivial))))) (Reps.none _ _))))); intro v111 w34 ho35 hb hg_ hnew_; clear hg_ hnew_; (first | rw [← Ny110.out] at ho35 | (simp only [Int.reduceToNat] at ho35; rw [← Ny110.out] at ho35)); have n0_ := Aside0.mk (Kd.N_lower ho35 (below_size (by repeat (first | (with_reducible first | exact HB.out | apply below_alloc | apply pw_below_drewN | apply below_drew1) | exact HB.out)))); have n1_ := Aside0.mk (below_step (by repeat (first | (with_reducible first | exact HB.out | apply below_alloc | apply pw_below_drewN | apply below_drew1) | exact HB.out)) hb); clear HB; clear HO103; clear HO106; clear HO109; have HO112 := n0_; have HB := n1_; clear n0_ n1_; clear hb ho35; obtain ⟨Ao36, co36, eo36⟩ := Kd.N_slice HO112.out; subst eo36) | ((with_reducible refine gate_callee (f := 38) rfl ?_); refine goesL_ (some 16) rfl rfl Tryd.func38 (by kernel_rfl) rfl #[.slice Ao36 y110.length co36] rfl (by (try simp only [List.map_toArray, List.map_cons, List.map_nil]); first | done | rfl | (simp only [List.length_drop, List.length_take]; rfl)) ?_; (with_reducible refine (tree_Leaves.calls k _ _ y110 t113 _ ?side3 ?side1 ?side2 A1.out).mono ?_); (case side1 => repeat (first | exact (Kd.N_reads' HO112.out).2.2 | (with_reducible refine Kd.C_alloc ?_ _) | (with_reducible refine Kd.C_drewN ?_ _) | (with_reducible refine Kd.C_drew ?_))); (case side2 => exact (Kd.N_reads' HO112.out).2.1); (case side3 => exact gw_step hG_ (by repeat (first | (with_reducible first | exact HB.out | apply below_alloc | apply pw_below_drewN | apply below_drew1) | exact HB.out))); rintro e w37 ⟨v114, rfl, ho0, hb⟩; refine ⟨_, rfl, ?_⟩; have n0_ := Aside0.mk (Kd.N_elder' (by (with_reducible repeat (first | apply Kd.N_alloc | apply Kd.N_drewN | apply Kd.N_drew)); exact HO112.out) (Kd.R_base ho0) hb); have n1_ := Aside0.mk (Kd.R_lower ho0 (below_size (by repeat (first | (with_reducible first | exact HB.out | apply below_alloc | apply pw_below_drewN | apply below_drew1) | exact HB.out)))); have n2_ := Aside0.mk (below_step (by repeat (first | (with_reducible first | exact HB.out | apply below_alloc | apply pw_below_drewN | apply below_drew1) | exact HB.out)) hb); clear HO112; clear HB; have HO112 := n0_; have HO115 := n1_; have HB := n2_; clear n0_ n1_ n2_; (try clear hb); (try clear hb2); (try clear hk); (try clear hi); (try clear ho0); obtain ⟨Ao38, co38, eo38⟩ := Kd.R_slice HO115.out; subst eo38))
               have n0_ := Aside0.mk (Kd.N_drew HO112.out)
               have n1_ := Aside0.mk (Kd.R_drew HO115.out)
               have n2_ := Aside0.mk (below_drew1 HB.out)
               clear HO112
               clear HO115
               clear HB
               have HO112 := n0_
               have HO115 := n1_
               have HB := n2_
               clear n0_ n1_ n2_
               have p116 : 0 ≤ (0 : Int) := (by omega)
               have q116 : 0 < (t113.length : Int) := of_decide_eq_true (by first | (with_reducible assumption) | assumption)
               obtain ⟨ad116, e116, hx116_0⟩ := Kd.at_string (Kd.R_reads' HO115.out).2.2 0 p116 q116
               cases e116
               have qi116 : (0 < t113.length) = True := eq_true (by omega)
               (try rw [show ((0 : Int)).toNat = 0 from rfl] at hx116_0)
               (try rw [Addr.add_zero'] at hx116_0)
               replace p116 := eq_true p116
               replace q116 := eq_true q116
               have p117 : 0 ≤ (1 : Int) := (by omega)
               have q117 : 1 < (t113.length : Int) := of_decide_eq_true (by first | (with_reducible assumption) | assumption)
               obtain ⟨ad117, e117, hx117_0⟩ := Kd.at_string (Kd.R_reads' HO115.out).2.2 1 p117 q117
               obtain rfl : ad116 = ad117 := (by injection e117)
               (try simp only [show (1 : Int).toNat = 1 from rfl, Nat.reduceMul, Nat.reduceEqDiff, Go.Addr.add, ↓reduceIte] at hx117_0)
               have qi117 : (1 < t113.length) = True := eq_true (by omega)
               (try rw [show ((1 : Int)).toNat = 1 from rfl] at hx117_0)
               replace p117 := eq_true p117
               replace q117 := eq_true q117
               refine start_ (n := 12) (S := fun w' => w'.cell? ad116 = some (.string (rdOf ByteArray.empty t113 0)) ∧ w'.cell? ⟨ad116.block, ad116.off + 1, none⟩ = some (.string (rdOf ByteArray.empty t113 1))) (ds := []) #[false, false, false, false, false, false, false, false, false, false, false, false] (by kernel_rfl) rfl rfl ⟨hx116_0, hx117_0⟩ (fun hHeld => ?_); refine with_tabW rubricklaw06_knows.tab4 rubricklaw06_knows.bits4 (fun HT_ HW_ => ?_)
               generalize w37.drew = w39 at HO112 HO115 HB hx116_0 hx117_0 hHeld ⊢
               refine HBulk.bulkT (fuel := 6) HT_.out HW_.out [(0, some 21, false), (1, some 22, false), (3, some 24, false), (4, some 25, false), (2, some 23, true), (5, some 26, true)] #[true, true, true, true, true, true, false, false, false, false, false, false] (a' := ?_) (by kernel_rfl) rfl hHeld ?_ ?_
               rotate_left
               ·repeat
                 refine HBulk.RunsM.cons (v := ?_) (a1 := ?_) rfl rfl (fun _ _ _ h => h) (by rfl) ?_ ?_ ?_
                 rotate_left
                 ·intro w' hS_; (try (obtain ⟨s0, s1⟩ := hS_ rfl))
                  go_simp
                  with_reducible rfl
                 rotate_left
                 ·simp only [Act.put, List.setIfInBounds_toArray, List.set_cons_zero, List.set_cons_succ, i64_w, i32_w]
                  rfl
                exact HBulk.RunsM.nil
               refine one_ (i := 6) (N := some 27) #[true, true, true, true, true, true, true, false, false, false, false, false] rfl rfl (one_of HT_.out (by kernel_rfl)) (by decide) (fun K hK => ?_)
               refine goes_ Tryd.func28 (by kernel_rfl) rfl #[.string (rdOf ByteArray.empty t113 0), .string (rdOf ByteArray.empty t113 1)] (by rfl) rfl rfl (by (try simp only [List.map_toArray, List.map_cons, List.map_nil]); first | done | rfl | (simp only [List.length_drop, List.length_take]; rfl)) ?_
               with_reducible refine (seal_Node.calls k (rdOf ByteArray.empty t113 0) (rdOf ByteArray.empty t113 1) t118 t119 _ ?side1 A5.out).mono ?_
               (case side1 => exact gw_step hG_ (by repeat (first | (with_reducible first | exact HB.out | apply below_alloc | apply pw_below_drewN | apply below_drew1) | exact HB.out)))
               rintro e w40 ⟨rfl, hb⟩
               have HS0_ := (hb.cell (World.block_lt_of_cell? _ _ (hHeld.1))).trans (hHeld.1)
               have HS1_ := (hb.cell (World.block_lt_of_cell? _ _ (hHeld.2))).trans (hHeld.2)
               refine ⟨_, rfl, ?_⟩
               have n0_ := Aside0.mk (Kd.N_below (by (with_reducible repeat (first | apply Kd.N_alloc | apply Kd.N_drewN | apply Kd.N_drew)); exact HO112.out) hb)
               have n1_ := Aside0.mk (Kd.R_below (by (with_reducible repeat (first | apply Kd.R_alloc | apply Kd.R_drewN | apply Kd.R_drew)); exact HO115.out) hb)
               have n2_ := Aside0.mk (below_step (by repeat (first | (with_reducible first | exact HB.out | apply below_alloc | apply pw_below_drewN | apply below_drew1) | exact HB.out)) hb)
               clear HO112
               clear HO115
               clear HB
               have HO112 := n0_
               have HO115 := n1_
               have HB := n2_
               clear n0_ n1_ n2_
               (try clear hb)
               (try clear hb2)
               (try clear hk)
               (try clear hi)
               refine hK.out _ _ ⟨HS0_, HS1_⟩ (fun hHeld => ?_)
               clear hK K
               refine norm_ (a' := ?_) ?_ ?_
               rotate_left
               ·show Act.put _ (some 27) _ = _
                simp only [Act.put, List.setIfInBounds_toArray, List.set_cons_zero, List.set_cons_succ, i64_w, i32_w]
                rfl
               refine HBulk.bulkT (fuel := 0) HT_.out HW_.out [(7, some 20, false), (8, some 28, false), (9, some 29, false), (10, some 2, false), (11, some 3, false)] #[true, true, true, true, true, true, true, true, true, true, true, true] (a' := ?_) (by kernel_rfl) rfl hHeld ?_ ?_
               rotate_left
               ·repeat
                 refine HBulk.RunsM.cons (v := ?_) (a1 := ?_) rfl rfl (fun _ _ _ h => h) (by rfl) ?_ ?_ ?_
                 rotate_left
                 ·intro w' hS_
                  go_simp
                  with_reducible rfl
                 rotate_left
                 ·simp only [Act.put, List.setIfInBounds_toArray, List.set_cons_zero, List.set_cons_succ, i64_w, i32_w]
                  rfl
                exact HBulk.RunsM.nil
               refine done_ (done_of HT_.out (by kernel_rfl)) ?_
               try go_wp2_with (first | ((with_reducible refine gate_callee (f := 13) rfl ?_); refine goesL_ (some 32) rfl rfl Tryd.func13 (by kernel_rfl) rfl #[.slice (some ad116) t113.length co38, .int .i64 2] rfl (by (try simp only [List.map_toArray, List.map_cons, List.map_nil]); first | done | rfl | (simp only [List.length_drop, List.length_take]; rfl)) ?_; (with_reducible refine (tree_Path.calls k (fun k_ => some k_ = (.slice (some ad116) t113.length co38 : Value).ownBlock) _ _ t113 2 t120 t123 _ ?side2 ?side1 A6.out).mono ?_); (case side1 => exact Kd.R_V (Kd.R_tight rfl (Kd.R_apart' (HO115.out) (Kd.N_typed HO112.out) (by decide)))); (case side2 => exact gw_step hG_ (by repeat (first | (with_reducible first | exact HB.out | apply below_alloc | apply pw_below_drewN | apply below_drew1) | exact HB.out))); rintro e w41 ⟨v121, rfl, ho0, hb⟩; refine ⟨_, rfl, ?_⟩; have n0_ := Aside0.mk (Kd.N_elder' (by (with_reducible repeat (first | apply Kd.N_alloc | apply Kd.N_drewN | apply Kd.N_drew)); exact HO112.out) (Kd.R_base ho0) hb); have n1_ := Aside0.mk (Kd.R_elder' (by (with_reducible repeat (first | apply Kd.R_alloc | apply Kd.R_drewN | apply Kd.R_drew)); exact HO115.out) (Kd.R_base ho0) hb); have n2_ := Aside0.mk (Kd.R_lower (Kd.R_new' (Kd.R_mono (ok' := fun k_ => True) ho0 (fun _ hk_ => trivial)) (Kd.R_lt (by (with_reducible repeat (first | apply Kd.R_alloc | apply Kd.R_drewN | apply Kd.R_drew)); exact HO115.out))) (below_size (by repeat (first | (with_reducible first | exact HB.out | apply below_alloc | apply pw_below_drewN | apply below_drew1) | exact HB.out)))); have n3_ := Aside0.mk (below_step (by repeat (first | (with_reducible first | exact HB.out | apply below_alloc | apply pw_below_drewN | apply below_drew1) | exact HB.out)) hb); clear HO112; clear HO115; clear HB; have HO112 := n0_; have HO115 := n1_; have HO122 := n2_; have HB := n3_; clear n0_ n1_ n2_ n3_; (try clear hb); (try clear hb2); (try clear hk); (try clear hi); (try clear ho0)) | ((with_reducible refine gate_callee (f := 21) rfl ?_); refine goesL_ (some 37) rfl rfl Tryd.func21 (by kernel_rfl) rfl #[.slice (some ad116) t113.length co38] rfl (by (try simp only [List.map_toArray, List.map_cons, List.map_nil]); first | done | rfl | (simp only [List.length_drop, List.length_take]; rfl)) ?_; (with_reducible refine (tree_Root.calls k _ _ t113 t124 t125 _ ?side3 ?side1 ?side2 A7.out).mono ?_); (case side1 => repeat (first | exact (Kd.R_reads' HO115.out).2.2 | (with_reducible refine Kd.C_alloc ?_ _) | (with_reducible refine Kd.C_drewN ?_ _) | (with_reducible refine Kd.C_drew ?_))); (case side2 => exact (Kd.R_reads' HO115.out).2.1); (case side3 => exact gw_step hG_ (by repeat (first | (with_reducible first | exact HB.out | apply below_alloc | apply pw_below_drewN | apply below_drew1) | exact HB.out))); rintro e w42 ⟨rfl, hb⟩; refine ⟨_, rfl, ?_⟩; have n0_ := Aside0.mk (Kd.N_below (by (with_reducible repeat (first | apply Kd.N_alloc | apply Kd.N_drewN | apply Kd.N_drew)); exact HO112.out) hb); have n1_ := Aside0.mk (Kd.R_below (by (with_reducible repeat (first | apply Kd.R_alloc | apply Kd.R_drewN | apply Kd.R_drew)); exact HO115.out) hb); have n2_ := Aside0.mk (Kd.R_below (by (with_reducible repeat (first | apply Kd.R_alloc | apply Kd.R_drewN | apply Kd.R_drew)); exact HO122.out) hb); have n3_ := Aside0.mk (below_step (by repeat (first | (with_reducible first | exact HB.out | apply below_alloc | apply pw_below_drewN | apply below_drew1) | exact HB.out)) hb); clear HO112; clear HO115; clear HO122; clear HB; have HO112 := n0_; have HO115 := n1_; have HO122 := n2_; have HB := n3_; clear n0_ n1_ n2_ n3_; (try clear hb); (try clear hb2); (try clear hk); (try clear hi); have p126 : 0 ≤ (2 : Int) := (by omega); have q126 : 2 < (t113.length : Int) := of_decide_eq_true (by first | (with_reducible assumption) | assumption); obtain ⟨ad126, e126, hx126_0⟩ := Kd.at_string (Kd.R_reads' HO115.out).2.2 2 p126 q126; obtain rfl : ad116 = ad126 := (by injection e126); (try simp only [show (2 : Int).toNat = 2 from rfl, Nat.reduceMul, Nat.reduceEqDiff, Go.Addr.add, ↓reduceIte] at hx126_0); have qi126 : (2 < t113.length) = True := eq_true (by omega); (try rw [show ((2 : Int)).toNat = 2 from rfl] at hx126_0); replace p126 := eq_true p126; replace q126 := eq_true q126; obtain ⟨Ao43, co43, eo43⟩ := Kd.R_slice HO122.out; subst eo43) | ((with_reducible refine gate_callee (f := 17) rfl ?_); refine goesL_ (some 45) rfl rfl Tryd.func17 (by kernel_rfl) rfl #[.string (rdOf ByteArray.empty t113 2), .int .i64 2, .int .i64 3, .slice Ao43 t120.length co43] rfl (by (try simp only [List.map_toArray, List.map_cons, List.map_nil]); first | done | rfl | (simp only [List.length_drop, List.length_take]; rfl)) ?_; (with_reducible refine (tree_Climb.calls k (rdOf ByteArray.empty t113 2) 2 3 _ _ t120 t127 t128 _ ?side3 ?side1 ?side2 A9.out).mono ?_); (case side1 => repeat (first | exact (Kd.R_reads' HO122.out).2.2 | (with_reducible refine Kd.C_alloc ?_ _) | (with_reducible refine Kd.C_drewN ?_ _) | (with_reducible refine Kd.C_drew ?_))); (case side2 => exact (Kd.R_reads' HO122.out).2.1); (case side3 => exact gw_step hG_ (by repeat (first | (with_reducible first | exact HB.out | apply below_alloc | apply pw_below_drewN | apply below_drew1) | exact HB.out))); rintro e w44 ⟨rfl, hb⟩; refine ⟨_, rfl, ?_⟩; have n0_ := Aside0.mk (Kd.N_below (by (with_reducible repeat (first | apply Kd.N_alloc | apply Kd.N_drewN | apply Kd.N_drew)); exact HO112.out) hb); have n1_ := Aside0.mk (Kd.R_below (by (with_reducible repeat (first | apply Kd.R_alloc | apply Kd.R_drewN | apply Kd.R_drew)); exact HO115.out) hb); have n2_ := Aside0.mk (Kd.R_below (by (with_reducible repeat (first | apply Kd.R_alloc | apply Kd.R_drewN | apply Kd.R_drew)); exact HO122.out) hb); have n3_ := Aside0.mk (below_step (by repeat (first | (with_reducible first | exact HB.out | apply below_alloc | apply pw_below_drewN | apply below_drew1) | exact HB.out)) hb); clear HO112; clear HO115; clear HO122; clear HB; have HO112 := n0_; have HO115 := n1_; have HO122 := n2_; have HB := n3_; clear n0_ n1_ n2_ n3_; (try clear hb); (try clear hb2); (try clear hk); (try clear hi)) | ((with_reducible refine gate_callee (f := 21) rfl ?_); refine goesL_ (some 49) rfl rfl Tryd.func21 (by kernel_rfl) rfl #[.slice none 0 0] rfl (by (try simp only [List.map_toArray, List.map_cons, List.map_nil]); first | done | rfl | (simp only [List.length_drop, List.length_take]; rfl)) ?_; (refine (tree_Root.calls k _ _ ([] : List ByteArray) t129 t130 _ ?side3 ?side1 ?side2 A10.out).mono ?_); (case side1 => exact Kd.C_nil _ _); (case side2 => exact Nat.le_refl _); (case side3 => exact gw_step hG_ (by repeat (first | (with_reducible first | exact HB.out | apply below_alloc | apply pw_below_drewN | apply below_drew1) | exact HB.out))); rintro e w45 ⟨rfl, hb⟩; refine ⟨_, rfl, ?_⟩; have n0_ := Aside0.mk (Kd.N_below (by (with_reducible repeat (first | apply Kd.N_alloc | apply Kd.N_drewN | apply Kd.N_drew)); exact HO112.out) hb); have n1_ := Aside0.mk (Kd.R_below (by (with_reducible repeat (first | apply Kd.R_alloc | apply Kd.R_drewN | apply Kd.R_drew)); exact HO115.out) hb); have n2_ := Aside0.mk (Kd.R_below (by (with_reducible repeat (first | apply Kd.R_alloc | apply Kd.R_drewN | apply Kd.R_drew)); exact HO122.out) hb); have n3_ := Aside0.mk (below_step (by repeat (first | (with_reducible first | exact HB.out | apply below_alloc | apply pw_below_drewN | apply below_drew1) | exact HB.out)) hb); clear HO112; clear HO115; clear HO122; clear HB; have HO112 := n0_; have HO115 := n1_; have HO122 := n2_; have HB := n3_; clear n0_ n1_ n2_ n3_; (try clear hb); (try clear hb2); (try clear hk); (try clear hi)) | ((with_reducible refine gate_callee (f := 25) rfl ?_); refine goesL_ (some 52) rfl rfl Tryd.func25 (by kernel_rfl) rfl #[.int .i64 2] rfl (by (try simp only [List.map_toArray, List.map_cons, List.map_nil]); first | done | rfl | (simp only [List.length_drop, List.length_take]; rfl)) ?_; (with_reducible refine (tree_Split.calls k 2 t131 _ A11.out).mono ?_); rintro e w' ⟨rfl, ⟨nd, rfl⟩⟩; refine ⟨_, rfl, ?_⟩) | (go_at_call 25; (with_reducible refine (tree_Split.calls k 5 t132 _ A13.out).mono ?_); rintro e w' ⟨rfl, ⟨nd, rfl⟩⟩) | (go_at_call 25; (with_reducible refine (tree_Split.calls k 8 t133 _ A15.out).mono ?_); rintro e w' ⟨rfl, ⟨nd, rfl⟩⟩; have p134 : 0 ≤ (0 : Int) := (by omega); have q134 : 0 < (t120.length : Int) := of_decide_eq_true (by first | (with_reducible assumption) | assumption); obtain ⟨ad134, e134, hx134_0⟩ := Kd.at_string (Kd.R_reads' HO122.out).2.2 0 p134 q134; cases e134; have qi134 : (0 < t120.length) = True := eq_true (by omega); (try rw [show ((0 : Int)).toNat = 0 from rfl] at hx134_0); (try rw [Addr.add_zero'] at hx134_0); replace p134 := eq_true p134; replace q134 := eq_true q134) | (go_at_call 29; (refine (sha_Sum.calls _ _ ([] : List Int) t135 _ ?side3 ?side1 ?side2 A24.out).mono ?_); (case side1 => exact Kd.C_nil _ _); (case side2 => exact Nat.le_refl _); (case side3 => exact gw_step hG_ (by repeat (first | (with_reducible first | exact HB.out | apply below_alloc | apply pw_below_drewN | apply below_drew1) | exact HB.out))); rintro e w46 ⟨rfl, hb⟩; have n0_ := Aside0.mk (Kd.N_below (by (with_reducible repeat (first | apply Kd.N_alloc | apply Kd.N_drewN | apply Kd.N_drew)); exact HO112.out) hb); have n1_ := Aside0.mk (Kd.R_below (by (with_reducible repeat (first | apply Kd.R_alloc | apply Kd.R_drewN | apply Kd.R_drew)); exact HO115.out) hb); have n2_ := Aside0.mk (Kd.R_below (by (with_reducible repeat (first | apply Kd.R_alloc | apply Kd.R_drewN | apply Kd.R_drew)); exact HO122.out) hb); have n3_ := Aside0.mk (below_step (by repeat (first | (with_reducible first | exact HB.out | apply below_alloc | apply pw_below_drewN | apply below_drew1) | exact HB.out)) hb); clear HO112; clear HO115; clear HO122; clear HB; have HO112 := n0_; have HO115 := n1_; have HO122 := n2_; have HB := n3_; clear n0_ n1_ n2_ n3_; (try clear hb); (try clear hb2); (try clear hk); (try clear hi)))
               go_ret
               exact ⟨by first | rfl | (simp [errW_none, errW_some] <;> rfl) | exact congrArg (fun b_ : Bool => Ending.returned (Value.bool b_)) HT2_.out | (simp [*, errW_none, errW_some] <;> rfl), by repeat (first | (with_reducible first | exact HB.out | apply below_alloc | apply pw_below_drewN | apply below_drew1) | exact HB.out)⟩
              ·rw [if_neg c23] at H
               have c23b0 : (t128 == 0) = false := beq_eq_false_iff_ne.mpr c23
               have c23b1 : (t128 != 0) = true := bne_iff_ne.mpr c23
               cases H
             ·rw [if_neg c22] at H
              have c22b0 : (t125 == 0) = false := beq_eq_false_iff_ne.mpr c22
              have c22b1 : (t125 != 0) = true := bne_iff_ne.mpr c22
              cases H
            ·rw [if_neg c21] at H
             have c21b0 : (t124.toList == t127.toList) = false := beq_eq_false_iff_ne.mpr c21
             have c21b1 : (t124.toList != t127.toList) = true := bne_iff_ne.mpr c21
             cases H
           ·rw [if_neg c20] at H
            have c20b0 : (t123 == 0) = false := beq_eq_false_iff_ne.mpr c20
            have c20b1 : (t123 != 0) = true := bne_iff_ne.mpr c20
            cases H
          ·rw [if_neg c19] at H
           have c19b0 : ((rdOf ByteArray.empty t120 0).toList == t118.toList) = false := beq_eq_false_iff_ne.mpr c19
           have c19b1 : ((rdOf ByteArray.empty t120 0).toList != t118.toList) = true := bne_iff_ne.mpr c19
           cases H
         ·rw [if_neg c18] at H
          exact absurd H (by simp)
        ·rw [if_neg c17] at H
         have c17b0 : ((t120.length : Int) == 1) = false := beq_eq_false_iff_ne.mpr c17
         have c17b1 : ((t120.length : Int) != 1) = true := bne_iff_ne.mpr c17
         cases H
       ·rw [if_neg c16] at H
        have c16b0 : (t133 == 4) = false := beq_eq_false_iff_ne.mpr c16
        have c16b1 : (t133 != 4) = true := bne_iff_ne.mpr c16
        cases H
      ·rw [if_neg c14] at H
       have c14b0 : (t132 == 4) = false := beq_eq_false_iff_ne.mpr c14
       have c14b1 : (t132 != 4) = true := bne_iff_ne.mpr c14
       cases H
     ·rw [if_neg c12] at H
      have c12b0 : (t131 == 1) = false := beq_eq_false_iff_ne.mpr c12
      have c12b1 : (t131 != 1) = true := bne_iff_ne.mpr c12
      cases H
    ·rw [if_neg c8] at H
     exact absurd H (by simp)
   ·rw [if_neg c4] at H
    exact absurd H (by simp)
  ·rw [if_neg c3] at H
   exact absurd H (by simp)
 ·rw [if_neg c2] at H
  have c2b0 : ((t113.length : Int) == 3) = false := beq_eq_false_iff_ne.mpr c2
  have c2b1 : ((t113.length : Int) != 3) = true := bne_iff_ne.mpr c2
  cases H
/-! ### rubricklaw06_digests: function 20 -/
mutual
def rubricklaw06_digests.l0 : Nat → List (List Int) → Int → List ByteArray → Int → Option (List ByteArray)
 | 0, _, _, _, _ => none
 | k + 1, x0, x1, x5, x6 => if x6 < (x0.length : Int) then (rubricklaw06_digests.j1 k x0 x1 x5 x6 (decide (x6 < x1))) else (rubricklaw06_digests.j1 k x0 x1 x5 x6 false)
def rubricklaw06_digests.j1 : Nat → List (List Int) → Int → List ByteArray → Int → Bool → Option (List ByteArray)
 | 0, _, _, _, _, _ => none
 | k + 1, x0, x1, x5, x6, x15 => if x15 = true then (if 0 ≤ x6 then (if x6 < (x0.length : Int) then (if ((rd_L1 x0 x6).length : Int) ≤ 1000 then ((rubrickref03_Leaf.f k (rd_L1 x0 x6)).bind fun t138 => (if x5.length < 8796093022208 then (rubricklaw06_digests.l0 k x0 x1 (x5 ++ [t138]) (wrap64 (x6 + 1))) else (none))) else (rubricklaw06_digests.l0 k x0 x1 x5 (wrap64 (x6 + 1)))) else (none)) else (none)) else (some x5)
end
def rubricklaw06_digests.f (k : Nat) (l0 : List (List Int)) (a1 : Int) : Option (List ByteArray) := rubricklaw06_digests.l0 k l0 a1 ([] : List ByteArray) 0
set_option maxHeartbeats 8000000 in
set_option maxRecDepth 100000 in
theorem rubricklaw06_digests.calls (k : Nat) (A0 : Option Addr) (c0 : Nat) (l0 : List (List Int)) (a1 : Int) (r : List ByteArray) (w : World) (hr0 : Kd.C (Kd.slice 5 (Kd.int .u8)) w A0 l0.length l0) (hc0 : l0.length ≤ c0) (h : rubricklaw06_digests.f k l0 a1 = some r) :
  Calls Tryd.prog 20 #[.slice A0 l0.length c0, .int .i64 a1] w fun e w' => ∃ v0_ : Value, e = .returned (v0_) ∧ Kd.R Kd.string 9 w' w.heap.size (fun _ => True) v0_ r ∧ Below w.heap.size w w' := by
 have HR0 := Aside0.mk hr0
 have HC0 := Aside0.mk hc0
 clear hr0 hc0
 have HB := Aside0.mk (Below.refl w.heap.size w)
 have H : (rubricklaw06_digests.l0 k l0 a1 ([] : List ByteArray) 0) = some r := h
 clear h
 have H' := Aside0.mk H
 clear H
 go_enter Tryd.func20, Tryd.ntmps20
 go_wp2
 go_loopg [5, 6] k (fun kq v5 v6 w' => ∃ (x5_1 : List ByteArray) (x6_1 : Int), v6 = .int .i64 x6_1 ∧ Aside0 (rubricklaw06_digests.l0 kq l0 a1 x5_1 x6_1 = some r) ∧ Aside0 (kq ≤ k) ∧ Aside0 (Kd.R Kd.string 9 w' w.heap.size (fun _ => True) v5 x5_1) ∧ Aside0 (Below w.heap.size w w'))
 case atStart => exact ⟨(([] : List ByteArray)), (0), (by first | rfl | (simp; done) | (simp [*]; done)), H', ⟨Nat.le_refl _⟩, ⟨by first | exact Kd.R_nil _ _ _ _ _ | exact Kd.N_nil _ _ _ _ _ | exact Kd.V_nil _ _ _ _ _ | exact Kd.Q_nil _ _ _ _ _ | exact Kd.S_nil _ _ _ _ _⟩, ⟨by repeat (first | (with_reducible first | exact HB.out | apply below_alloc | apply pw_below_drewN | apply below_drew1) | exact HB.out)⟩⟩
 case round =>
  clear H'
  try clear c2
  try clear p2
  obtain ⟨x5_1, x6_1, rfl, HA, HK1, HO_5, HB⟩ := hrel
  cases gk with
  | zero => exact absurd HA.out (by simp [rubricklaw06_digests.l0])
  | succ k1 =>
   have H := HA.out
   clear HA
   simp only [rubricklaw06_digests.l0] at H
   have HC3 := Aside0.mk H
   clear H
   go_upto_region 3 with (fail)
   go_cut [15] (fun v15 wc => ∃ (kq : Nat) (x15_2 : Bool), v15 = .bool x15_2 ∧ Aside0 (rubricklaw06_digests.j1 kq l0 a1 x5_1 x6_1 x15_2 = some r) ∧ Aside0 (kq ≤ k1) ∧ Aside0 (Kd.R Kd.string 9 wc w.heap.size (fun _ => True) u5 x5_1) ∧ Aside0 (Below w.heap.size w wc))
   case first =>
    have H := HC3.out
    clear HC3
    by_cases c4 : x6_1 < (l0.length : Int)
    ·rw [if_pos c4] at H
     have c4b0 : decide (x6_1 < (l0.length : Int)) = true := decide_eq_true c4
     clear c4
     (first | rw [c4b0] | (simp only [i64_w, i32_w]; rw [c4b0]) | skip)
     have H' := Aside0.mk H
     clear H
     go_wp2
     go_meet
     case rel => exact ⟨_, (decide (x6_1 < a1)), (by first | rfl | (simp; done) | (simp [*]; done)), H', ⟨by have := HK1.out; first | omega | exact Nat.le_refl _⟩, ⟨by (with_reducible repeat (first | apply Kd.R_alloc | apply Kd.R_drewN | apply Kd.R_drew)); exact HO_5.out⟩, ⟨by repeat (first | (with_reducible first | exact HB.out | apply below_alloc | apply pw_below_drewN | apply below_drew1) | exact HB.out)⟩⟩
    ·rw [if_neg c4] at H
     have c4b0 : decide (x6_1 < (l0.length : Int)) = false := decide_eq_false c4
     clear c4
     (first | rw [c4b0] | (simp only [i64_w, i32_w]; rw [c4b0]) | skip)
     have H' := Aside0.mk H
     clear H
     go_wp2
     go_meet
     case rel => exact ⟨_, (false), (by first | rfl | (simp; done) | (simp [*]; done)), H', ⟨by have := HK1.out; first | omega | exact Nat.le_refl _⟩, ⟨by (with_reducible repeat (first | apply Kd.R_alloc | apply Kd.R_drewN | apply Kd.R_drew)); exact HO_5.out⟩, ⟨by repeat (first | (with_reducible first | exact HB.out | apply below_alloc | apply pw_below_drewN | apply below_drew1) | exact HB.out)⟩⟩
   case rest =>
    clear HC3
    try clear c2
    try clear p2
    try clear c4
    try clear c4b0
    try clear p2
    obtain ⟨kq, x15_2, rfl, HA, HJ2, HO_5, HB⟩ := hcut
    cases kq with
    | zero => exact absurd HA.out (by simp [rubricklaw06_digests.j1])
    | succ kj2 =>
     have H := HA.out
     clear HA
     simp only [rubricklaw06_digests.j1] at H
     by_cases c5 : x15_2 = true
     ·subst c5
      have H1 : (if 0 ≤ x6_1 then (if x6_1 < (l0.length : Int) then (if ((rd_L1 l0 x6_1).length : Int) ≤ 1000 then ((rubrickref03_Leaf.f kj2 (rd_L1 l0 x6_1)).bind fun t138 => (if x5_1.length < 8796093022208 then (rubricklaw06_digests.l0 kj2 l0 a1 (x5_1 ++ [t138]) (wrap64 (x6_1 + 1))) else (none))) else (rubricklaw06_digests.l0 kj2 l0 a1 x5_1 (wrap64 (x6_1 + 1)))) else (none)) else (none)) = some r := by rw [if_pos rfl] at H; exact H
      clear H
      have H := H1
      clear H1
      by_cases c6 : 0 ≤ x6_1
      ·rw [if_pos c6] at H
       have c6b0 : decide (0 ≤ x6_1) = true := decide_eq_true c6
       clear c6
       by_cases c7 : x6_1 < (l0.length : Int)
       ·rw [if_pos c7] at H
        have c7b0 : decide (x6_1 < (l0.length : Int)) = true := decide_eq_true c7
        clear c7
        by_cases c8 : ((rd_L1 l0 x6_1).length : Int) ≤ 1000
        ·rw [if_pos c8] at H
         have c8b0 : decide (((rd_L1 l0 x6_1).length : Int) ≤ 1000) = true := decide_eq_true c8
         have c8b1 : decide ((rd_L1 l0 x6_1).length ≤ 1000) = true := decide_eq_true (by omega)
         clear c8
         replace H := Option.bind_eq_some_iff.mp H
         obtain ⟨t138, A90, H⟩ := H
         replace H : (if x5_1.length < 8796093022208 then (rubricklaw06_digests.l0 kj2 l0 a1 (x5_1 ++ [t138]) (wrap64 (x6_1 + 1))) else (none)) = some r := H
         have A9 := Aside0.mk A90
         clear A90
         by_cases c10 : x5_1.length < 8796093022208
         ·rw [if_pos c10] at H
          have LMc10 := Aside0.mk c10
          clear c10
          obtain ⟨y139, hy139⟩ : ∃ y_ : List ByteArray, y_ = (x5_1 ++ [t138]) := ⟨_, rfl⟩
          replace H : (rubricklaw06_digests.l0 kj2 l0 a1 y139 (wrap64 (x6_1 + 1))) = some r := by first | (rw [hy139]; with_reducible exact H) | (have H2_ := (Option.bind_some _ _).symm.trans H; rw [hy139]; with_reducible exact H2_) | (have H2_ := (Option.bind_some _ _).symm.trans H; with_reducible exact H2_) | with_reducible exact H | (rw [hy139]; exact H) | exact H
          have Ny139 := Aside0.mk hy139
          clear hy139
          have H' := Aside0.mk H
          clear H
          have p136 : 0 ≤ (x6_1 : Int) := of_decide_eq_true (by first | (with_reducible assumption) | assumption)
          have q136 : x6_1 < (l0.length : Int) := of_decide_eq_true (by first | (with_reducible assumption) | assumption)
          obtain ⟨ad136, A136_0, c136_0, e136, hx136_0, hl136_0, hi136_0⟩ := at_L1 HR0.out x6_1 p136 q136
          cases e136
          replace hx136_0 := (HB.out.cell (World.block_lt_of_cell? w _ hx136_0)).trans hx136_0
          have HR136_0 := Aside0.mk hi136_0
          have HC136_0 := Aside0.mk hl136_0
          clear hi136_0 hl136_0
          replace p136 := eq_true p136
          replace q136 := eq_true q136
          have p137 : 0 ≤ (x6_1 : Int) := of_decide_eq_true (by first | (with_reducible assumption) | assumption)
          have q137 : x6_1 < (l0.length : Int) := of_decide_eq_true (by first | (with_reducible assumption) | assumption)
          obtain ⟨ad137, A137_0, c137_0, e137, hx137_0, hl137_0, hi137_0⟩ := at_L1 HR0.out x6_1 p137 q137
          obtain rfl : ad136 = ad137 := (by injection e137)
          replace hx137_0 := (HB.out.cell (World.block_lt_of_cell? w _ hx137_0)).trans hx137_0
          have HR137_0 := Aside0.mk hi137_0
          have HC137_0 := Aside0.mk hl137_0
          clear hi137_0 hl137_0
          replace p137 := eq_true p137
          replace q137 := eq_true q137
          have ea_ := Option.some.inj (hx136_0.symm.trans hx137_0)
          injection ea_ with ea_ en_ ec_
          subst ea_
          subst ec_
          clear en_
          go_wp2_with (first | ((with_reducible refine gate_callee (f := 44) rfl ?_); refine goesL_ (some 29) rfl rfl Tryd.func44 (by kernel_rfl) rfl #[.slice A136_0 (rd_L1 l0 x6_1).length c136_0] rfl (by (try simp only [List.map_toArray, List.map_cons, List.map_nil]); first | done | rfl | (simp only [List.length_drop, List.length_take]; rfl)) ?_; (with_reducible refine (rubrickref03_Leaf.calls kj2 _ _ (rd_L1 l0 x6_1) t138 _ ?side1 ?side2 A9.out).mono ?_); (case side1 => repeat (first | exact (Kd.C_below HR137_0.out HB.out) | (with_reducible refine Kd.C_alloc ?_ _) | (with_reducible refine Kd.C_drewN ?_ _) | (with_reducible refine Kd.C_drew ?_))); (case side2 => exact HC137_0.out); rintro e w11 ⟨rfl, hb⟩; refine ⟨_, rfl, ?_⟩; have n0_ := Aside0.mk (Kd.R_below (by (with_reducible repeat (first | apply Kd.R_alloc | apply Kd.R_drewN | apply Kd.R_drew)); exact HO_5.out) hb); have n1_ := Aside0.mk (below_step (by repeat (first | (with_reducible first | exact HB.out | apply below_alloc | apply pw_below_drewN | apply below_drew1) | exact HB.out)) hb); clear HO_5; clear HB; have HO_5 := n0_; have HB := n1_; clear n0_ n1_; (try clear hb); (try clear hb2); (try clear hk); (try clear hi)) | ((with_reducible refine gate_builtin (b := .append) (xs := #[.tmp 24, .tmp 30]) rfl ?_); at_builtin; refine Kd.R_append Kd.string (w0 := w) w.heap.size rfl (.tmp 24) (.tmp 30) 22 9 (.string ⟨#[]⟩) 16 rfl Tryd.underlying22 info9 rfl (by decide) (by omega) u5 x5_1 t138 [.string t138] (fun _ => True) (fun _ => False) rfl rfl ?aP (fun _ hk => hk.elim) ?aF ?aO ?aB ?aS ?aL ?_; (case aP => exact rfl); (case aB => exact (by repeat (first | (with_reducible first | exact HB.out | apply below_alloc | apply pw_below_drewN | apply below_drew1) | exact HB.out))); (case aF => exact (fun _ _ => trivial)); (case aO => exact (by (with_reducible repeat (first | apply Kd.R_alloc | apply Kd.R_drewN | apply Kd.R_drew)); exact HO_5.out)); (case aS => exact (below_size (by repeat (first | (with_reducible first | exact HB.out | apply below_alloc | apply pw_below_drewN | apply below_drew1) | exact HB.out)))); (case aL => have := LMc10.out; omega); intro v140 w12 ho hb hg hat; rw [← Ny139.out] at ho; have n0_ := Aside0.mk (hb); have n1_ := Aside0.mk (ho); clear HB; clear HO_5; have HB := n0_; have HO141 := n1_; clear n0_ n1_; clear ho hb hg hat))
          go_roundg kj2
          case measure => have := HK1.out; have := HJ2.out; omega
          case rel => exact ⟨(y139), (wrap64 (x6_1 + 1)), (by first | rfl | (simp; done) | (simp [*]; done)), H', ⟨by have := HK1.out; have := HJ2.out; omega⟩, ⟨by (with_reducible repeat (first | apply Kd.R_alloc | apply Kd.R_drewN | apply Kd.R_drew)); exact HO141.out⟩, ⟨by repeat (first | (with_reducible first | exact HB.out | apply below_alloc | apply pw_below_drewN | apply below_drew1) | exact HB.out)⟩⟩
         ·rw [if_neg c10] at H
          exact absurd H (by simp)
        ·rw [if_neg c8] at H
         have c8b0 : decide (((rd_L1 l0 x6_1).length : Int) ≤ 1000) = false := decide_eq_false c8
         have c8b1 : decide ((rd_L1 l0 x6_1).length ≤ 1000) = false := decide_eq_false (by omega)
         clear c8
         have H' := Aside0.mk H
         clear H
         have p136 : 0 ≤ (x6_1 : Int) := of_decide_eq_true (by first | (with_reducible assumption) | assumption)
         have q136 : x6_1 < (l0.length : Int) := of_decide_eq_true (by first | (with_reducible assumption) | assumption)
         obtain ⟨ad136, A136_0, c136_0, e136, hx136_0, hl136_0, hi136_0⟩ := at_L1 HR0.out x6_1 p136 q136
         cases e136
         replace hx136_0 := (HB.out.cell (World.block_lt_of_cell? w _ hx136_0)).trans hx136_0
         have HR136_0 := Aside0.mk hi136_0
         have HC136_0 := Aside0.mk hl136_0
         clear hi136_0 hl136_0
         replace p136 := eq_true p136
         replace q136 := eq_true q136
         go_wp2
         go_roundg kj2
         case measure => have := HK1.out; have := HJ2.out; omega
         case rel => exact ⟨(x5_1), (wrap64 (x6_1 + 1)), (by first | rfl | (simp; done) | (simp [*]; done)), H', ⟨by have := HK1.out; have := HJ2.out; omega⟩, ⟨by (with_reducible repeat (first | apply Kd.R_alloc | apply Kd.R_drewN | apply Kd.R_drew)); exact HO_5.out⟩, ⟨by repeat (first | (with_reducible first | exact HB.out | apply below_alloc | apply pw_below_drewN | apply below_drew1) | exact HB.out)⟩⟩
       ·rw [if_neg c7] at H
        exact absurd H (by simp)
      ·rw [if_neg c6] at H
       exact absurd H (by simp)
     ·replace c5 := Bool.eq_false_iff.mpr c5
      subst c5
      have H1 : (some x5_1) = some r := by rw [if_neg (show ¬ (false = true) by decide)] at H; exact H
      clear H
      have H := H1
      clear H1
      obtain rfl := Option.some.inj H
      go_wp2
      go_ret
      exact ⟨_, by first | rfl | (simp [errW_none, errW_some] <;> rfl) | (simp [*, errW_none, errW_some] <;> rfl), by (with_reducible repeat (first | apply Kd.R_alloc | apply Kd.R_drewN | apply Kd.R_drew)); exact HO_5.out, by repeat (first | (with_reducible first | exact HB.out | apply below_alloc | apply pw_below_drewN | apply below_drew1) | exact HB.out)⟩
end Go.Proofs.YtgcfhgkhokljcaaDoor.PK

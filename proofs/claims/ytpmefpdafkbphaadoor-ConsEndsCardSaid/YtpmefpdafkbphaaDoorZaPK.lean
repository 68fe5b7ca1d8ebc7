import Derived.Test.YtpmefpdafkbphaaDoorZaHBulk
import Derived.Test.YtpmefpdafkbphaaDoorProg
import Derived.Below
import Derived.Deep.Draws
import Derived.Deep.AppendLies
import Derived.Maps.AppendAt
import Derived.OwnWalk
import Derived.Laws.BytesArg
import Derived.Laws.MakeOwn
import Derived.Laws.OwnMore
import Derived.Deep.OwnRows
import Derived.Tactics
import Derived.Lib.ConvBytes
import Derived.Laws.Slices
import Derived.WalkKit
import Derived.KernelRfl
import Derived.RowKit3
import Derived.Deep.LoopGhost
import Derived.Deep.QuietTactic
import Derived.BigQuiet
import Derived.WideLaws
import Derived.Deep.DeepCutAuto
import Derived.Deep.CutBlock
import Derived.Deep.RegionHeld3
import Derived.Laws.Rows
import Derived.Lib.AppendStr
import Derived.ArgAppend
import Derived.Laws.IdiomCopy
import Derived.OrdersHeld
import Derived.Laws.BitsLemmas
import Derived.RowKit
import Derived.WalkMore
import Derived.Test.YtpmefpdafkbphaaDoorZaHShaD
import Derived.Test.YtpmefpdafkbphaaDoorZaPS
import Derived.Test.YtpmefpdafkbphaaDoorZaPR
import Derived.Test.YtpmefpdafkbphaaDoorZaPT
import Derived.Test.YtpmefpdafkbphaaDoorZaPB
import Derived.Test.YtpmefpdafkbphaaDoorZaHNode
import Derived.Test.YtpmefpdafkbphaaDoorZaPC
import Derived.Test.YtpmefpdafkbphaaDoorZaPP
import Derived.Test.YtpmefpdafkbphaaDoorZaHProve
import Derived.Test.YtpmefpdafkbphaaDoorZaHCheck
import Derived.Test.YtpmefpdafkbphaaDoorZaWWords
import Derived.Test.YtpmefpdafkbphaaDoorZaWLast
import Derived.Test.YtpmefpdafkbphaaDoorZaWTab
import Derived.Test.YtpmefpdafkbphaaDoorZaWApart
import Derived.Test.YtpmefpdafkbphaaDoorZaWFoot
import Derived.Test.YtpmefpdafkbphaaDoorZaWKept
import Derived.Test.YtpmefpdafkbphaaDoorZaWShare
import Derived.Test.YtpmefpdafkbphaaDoorZaWN
import Derived.Laws.StructEq
import Derived.Test.YtpmefpdafkbphaaDoorZaWRepsOne
import Derived.Test.YtpmefpdafkbphaaDoorZaWInv
import Derived.Test.YtpmefpdafkbphaaDoorZaWGuard
import Derived.Test.YtpmefpdafkbphaaDoorZaWNEv
import Derived.Test.YtpmefpdafkbphaaDoorZaWMore
-- PRINTED by print.py (a twelfth state) out of the translation. Not trusted: Lean checks it.
namespace Go.Proofs.YtpmefpdafkbphaaDoor.PK
open Go.RowKit Go.Proofs.YtpmefpdafkbphaaDoor Go.Proofs.YtpmefpdafkbphaaDoor.HSha Go.Proofs.YtpmefpdafkbphaaDoor.PS Go.Proofs.YtpmefpdafkbphaaDoor.PR Go.Proofs.YtpmefpdafkbphaaDoor.PT Go.Proofs.YtpmefpdafkbphaaDoor.PB Go.Proofs.YtpmefpdafkbphaaDoor.HNode Go.Proofs.YtpmefpdafkbphaaDoor.PC Go.Proofs.YtpmefpdafkbphaaDoor.PP Go.Proofs.YtpmefpdafkbphaaDoor.HProve Go.Proofs.YtpmefpdafkbphaaDoor.HCheck Go.Proofs.YtpmefpdafkbphaaDoorW.PrintWords Go.Proofs.YtpmefpdafkbphaaDoorW.PrintLast Go.Proofs.YtpmefpdafkbphaaDoorW.PrintMore
attribute [local go_sem] max2_int min2_int max_two min_two max_three min_three max_four min_four   -- for this text's walks alone
set_option linter.unusedVariables false
set_option linter.unusedSimpArgs false
def errW : Option Int → Value
 | none => .nilIface
 | some c => .iface 0 (.int .i64 c)
theorem errW_none : errW none = .nilIface := rfl
theorem errW_some (c : Int) : errW (some c) = .iface 0 (.int .i64 c) := rfl
theorem info5 : (Tryd.prog.info? 5).map (fun i => (i.zero, i.size, i.bytes)) = some (some (.int .u8 0), 1, 1) := by kernel_rfl
theorem info9 : (Tryd.prog.info? 9).map (fun i => (i.zero, i.size, i.bytes)) = some (some (.string ⟨#[]⟩), 1, 16) := by kernel_rfl
-- the values' own types
def rd_L1 (xs : List (List Int)) (i : Int) : (List Int) := xs.getD i.toNat ([] : List Int)
theorem at_L1 {w : World} {A : Option Addr} {n : Nat} {xs : List (List Int)} (h : Kd.C (Kd.slice 5 (Kd.int .u8)) w A n xs) (i : Int) (h0 : 0 ≤ i) (h1 : i < n) : ∃ ad A0 c0, A = some ad ∧ w.cell? (ad.add i.toNat) = some (.slice A0 (rd_L1 xs i).length c0) ∧ (rd_L1 xs i).length ≤ c0 ∧ (Kd.int .u8).C w A0 (rd_L1 xs i).length (rd_L1 xs i) := by
 obtain ⟨ad, c, e, _, hK, hc0⟩ := Kd.C_get h ([] : List Int) i h0 h1
 have hc : ∀ j u, c[j]? = some u → w.cell? (ad.add (i.toNat * 1 + j)) = some u := hc0
 obtain ⟨A0, c0, rfl, l0, g0⟩ := hK
 exact ⟨ad, A0, c0, e, by have hq := hc 0 _ rfl; rwa [Nat.mul_one, Nat.add_zero] at hq, l0, g0⟩
end Go.Proofs.YtpmefpdafkbphaaDoor.PK
namespace Go.Proofs.YtpmefpdafkbphaaDoor.PK
open Go.RowKit Go.Proofs.YtpmefpdafkbphaaDoor Go.Proofs.YtpmefpdafkbphaaDoor.HSha Go.Proofs.YtpmefpdafkbphaaDoor.PS Go.Proofs.YtpmefpdafkbphaaDoor.PR Go.Proofs.YtpmefpdafkbphaaDoor.PT Go.Proofs.YtpmefpdafkbphaaDoor.PB Go.Proofs.YtpmefpdafkbphaaDoor.HNode Go.Proofs.YtpmefpdafkbphaaDoor.PC Go.Proofs.YtpmefpdafkbphaaDoor.PP Go.Proofs.YtpmefpdafkbphaaDoor.HProve Go.Proofs.YtpmefpdafkbphaaDoor.HCheck Go.Proofs.YtpmefpdafkbphaaDoorW.PrintWords Go.Proofs.YtpmefpdafkbphaaDoorW.PrintLast Go.Proofs.YtpmefpdafkbphaaDoorW.PrintMore
attribute [local go_sem] max2_int min2_int max_two min_two max_three min_three max_four min_four   -- for this text's walks alone
set_option linter.unusedVariables false
set_option linter.unusedSimpArgs false
/-! ### rubricklaw07_knows: function 15 -/
def rubricklaw07_knows.f (k : Nat)  : Option (Bool) := (tree_Leaves.f k (([(([0] : List Int)), (([1] : List Int)), (([2] : List Int)), (([3] : List Int)), (([4] : List Int)), (([5] : List Int)), (([6] : List Int))] : List (List Int)))).bind fun t125 => (if (t125.length : Int) = 7 then ((cons_Prove.f k t125 3).bind fun bt128 => ((cons_Prove.f k t125 4).bind fun bt132 => (if 4 ≤ (t125.length : Int) then ((tree_Root.f k (t125.take 4)).bind fun bt141 => ((tree_Root.f k t125).bind fun bt143 => ((tree_Root.f k (t125.drop 4)).bind fun bt150 => (if (bt128.1.length : Int) = 4 then (if 0 < (bt128.1.length : Int) then (if 2 < (t125.length : Int) then (if (rdOf ByteArray.empty bt128.1 0).toList = (rdOf ByteArray.empty t125 2).toList then (if 1 < (bt128.1.length : Int) then (if 3 < (t125.length : Int) then (if (rdOf ByteArray.empty bt128.1 1).toList = (rdOf ByteArray.empty t125 3).toList then (if 3 < (bt128.1.length : Int) then (if (rdOf ByteArray.empty bt128.1 3).toList = bt150.1.toList then (if bt128.2 = 0 then (if (bt132.1.length : Int) = 1 then (if 0 < (bt132.1.length : Int) then (if (rdOf ByteArray.empty bt132.1 0).toList = bt150.1.toList then (if bt132.2 = 0 then ((cons_Check.f k 4 7 bt141.1 bt143.1 bt132.1).bind fun t158 => (if t158 = 0 then ((cons_Check.f k 4 7 bt143.1 bt141.1 bt132.1).bind fun t159 => (some (t159 == 6))) else (some false))) else (some false)) else (some false)) else (none)) else (some false)) else (some false)) else (some false)) else (none)) else (some false)) else (none)) else (none)) else (some false)) else (none)) else (none)) else (some false))))) else (none)))) else (some false))
theorem rubricklaw07_knows.mono : ∀ k, LeO (rubricklaw07_knows.f k ) (rubricklaw07_knows.f (k + 1) ) := by
 intro  k
 unfold rubricklaw07_knows.f
 repeat' first
   | (with_reducible exact cons_Check.mono _ _ _ _ _ _)
   | (with_reducible exact cons_Prove.mono _ _ _)
   | (with_reducible exact tree_Leaves.mono _ _)
   | (with_reducible exact tree_Root.mono _ _)
   | (with_reducible exact LeO.refl _)
   | (with_reducible exact LeO.none _)
   | (with_reducible refine LeO.ite ?_ ?_)
   | (with_reducible refine LeO.bind ?_ (fun _ => ?_))
def rubricklaw07_knows.T9 : Bool × List (List Nat × List Nat) := (true, [([], []), ([0], [0]), ([1], [1]), ([2], [2]), ([3], [3]), ([4, 3], [3, 4]), ([5, 3], [3, 5]), ([3], [3]), ([7, 3], [3, 7]), ([8, 3], [3, 8]), ([6, 9, 3], [3, 6, 9]), ([3, 10], [3, 10]), ([11, 3], [11]), ([12], [12]), ([13, 12], [12, 13]), ([14, 12], [12, 14]), ([12], [12]), ([16, 12], [12, 16]), ([17, 12], [12, 17]), ([15, 18, 12], [12, 15, 18]), ([12, 19], [12, 19]), ([20, 12], [20]), ([21], [21]), ([22, 21], [21, 22]), ([23, 21], [21, 23]), ([21], [21]), ([24, 25, 21], [21, 24, 25]), ([21, 26], [21, 26]), ([27, 21], [27]), ([28], [28]), ([29, 28], [28, 29]), ([28, 30], [28, 30]), ([31, 28], [31]), ([32], [32]), ([33, 32], [32, 33]), ([34, 32], [32, 34]), ([32, 35], [32, 35]), ([36, 32], [36]), ([37], [37]), ([38, 37], [37, 38]), ([39, 37], [37, 39]), ([37], [37]), ([40, 41, 37], [37, 40, 41]), ([37, 42], [37, 42]), ([43, 37], [43]), ([44], [44]), ([45, 44], [44, 45]), ([44, 46], [44, 46]), ([47, 44], [47]), ([48], [48]), ([48], [48]), ([48], [48]), ([49, 50, 51, 48, 48], [48, 49, 50, 51]), ([52, 48], [48, 52]), ([48, 53], [48, 53]), ([54, 52], [54]), ([55], [55]), ([55], [55]), ([55], [55]), ([56, 57, 58, 55, 55], [55, 56, 57, 58]), ([59, 55], [55, 59]), ([55, 60], [55, 60]), ([61, 59, 0, 1, 2, 3, 4, 5, 6, 7, 8, 9, 10, 11, 12, 13, 14, 15, 16, 17, 18, 19, 20, 21, 22, 23, 24, 25, 26, 27, 28, 29, 30, 31, 32, 33, 34, 35, 36, 37, 38, 39, 40, 41, 42, 43, 44, 45, 46, 47, 48, 49, 50, 51, 52, 53, 54, 55, 56, 57, 58, 59, 60, 61], [61])])
def rubricklaw07_knows.B9 : List Nat := [0, 1, 3, 7, 15, 31, 63, 15, 143, 399, 1023, 2047, 4095, 8191, 16383, 32767, 8191, 73727, 204799, 524287, 1048575, 2097151, 4194303, 8388607, 16777215, 4194303, 67108863, 134217727, 268435455, 536870911, 1073741823, 2147483647, 4294967295, 8589934591, 17179869183, 34359738367, 68719476735, 137438953471, 274877906943, 549755813887, 1099511627775, 274877906943, 4398046511103, 8796093022207, 17592186044415, 35184372088831, 70368744177663, 140737488355327, 281474976710655, 562949953421311, 562949953421311, 562949953421311, 4503599627370495, 9007199254740991, 18014398509481983, 36028797018963967, 72057594037927935, 72057594037927935, 72057594037927935, 576460752303423487, 1152921504606846975, 2305843009213693951, 4611686018427387903]
theorem rubricklaw07_knows.tab9 : rtab .any (opsOf Tryd.f15 9) = rubricklaw07_knows.T9 := by kernel_rfl
theorem rubricklaw07_knows.bits9 : waitsOk rubricklaw07_knows.T9.2 rubricklaw07_knows.B9 = true := by kernel_rfl
set_option maxRecDepth 1000000 in
theorem rubricklaw07_knows.sure : rubricklaw07_knows.f 80 = some true := by decide +kernel
theorem rubricklaw07_knows.only (k : Nat) (r : Bool) (h : rubricklaw07_knows.f k = some r) : r = true := by
 have u : ∀ d, rubricklaw07_knows.f (80 + d) = some true := fun d => by
  induction d with
  | zero => exact rubricklaw07_knows.sure
  | succ d ih => exact rubricklaw07_knows.mono _ _ ih
 have v : ∀ d, rubricklaw07_knows.f (k + d) = some r := fun d => by
  induction d with
  | zero => exact h
  | succ d ih => exact rubricklaw07_knows.mono _ _ ih
 have e := v 80
 rw [Nat.add_comm, u k] at e
 exact (Option.some.inj e).symm
set_option maxHeartbeats 8000000 in
set_option maxRecDepth 100000 in
theorem rubricklaw07_knows.calls (k : Nat)  (r : Bool) (w : World) (hG_ : Aside0 (GW w)) (h : rubricklaw07_knows.f k  = some r) :
  Calls Tryd.prog 15 #[] w fun e w' => e = .returned (.bool r) ∧ Below w.heap.size w w' := by
 have HB := Aside0.mk (Below.refl w.heap.size w)
 obtain rfl := rubricklaw07_knows.only k r h
 have H : ((tree_Leaves.f k (([(([0] : List Int)), (([1] : List Int)), (([2] : List Int)), (([3] : List Int)), (([4] : List Int)), (([5] : List Int)), (([6] : List Int))] : List (List Int)))).bind fun t125 => (if (t125.length : Int) = 7 then ((cons_Prove.f k t125 3).bind fun bt128 => ((cons_Prove.f k t125 4).bind fun bt132 => (if 4 ≤ (t125.length : Int) then ((tree_Root.f k (t125.take 4)).bind fun bt141 => ((tree_Root.f k t125).bind fun bt143 => ((tree_Root.f k (t125.drop 4)).bind fun bt150 => (if (bt128.1.length : Int) = 4 then (if 0 < (bt128.1.length : Int) then (if 2 < (t125.length : Int) then (if (rdOf ByteArray.empty bt128.1 0).toList = (rdOf ByteArray.empty t125 2).toList then (if 1 < (bt128.1.length : Int) then (if 3 < (t125.length : Int) then (if (rdOf ByteArray.empty bt128.1 1).toList = (rdOf ByteArray.empty t125 3).toList then (if 3 < (bt128.1.length : Int) then (if (rdOf ByteArray.empty bt128.1 3).toList = bt150.1.toList then (if bt128.2 = 0 then (if (bt132.1.length : Int) = 1 then (if 0 < (bt132.1.length : Int) then (if (rdOf ByteArray.empty bt132.1 0).toList = bt150.1.toList then (if bt132.2 = 0 then ((cons_Check.f k 4 7 bt141.1 bt143.1 bt132.1).bind fun t158 => (if t158 = 0 then ((cons_Check.f k 4 7 bt143.1 bt141.1 bt132.1).bind fun t159 => (some (t159 == 6))) else (some false))) else (some false)) else (some false)) else (none)) else (some false)) else (some false)) else (some false)) else (none)) else (some false)) else (none)) else (none)) else (some false)) else (none)) else (none)) else (some false))))) else (none)))) else (some false))) = some true := h
 clear h
 obtain ⟨y101, hy101⟩ : ∃ y_ : List Int, y_ = (([0] : List Int)) := ⟨_, rfl⟩
 replace H : ((tree_Leaves.f k (([y101, (([1] : List Int)), (([2] : List Int)), (([3] : List Int)), (([4] : List Int)), (([5] : List Int)), (([6] : List Int))] : List (List Int)))).bind fun t125 => (if (t125.length : Int) = 7 then ((cons_Prove.f k t125 3).bind fun bt128 => ((cons_Prove.f k t125 4).bind fun bt132 => (if 4 ≤ (t125.length : Int) then ((tree_Root.f k (t125.take 4)).bind fun bt141 => ((tree_Root.f k t125).bind fun bt143 => ((tree_Root.f k (t125.drop 4)).bind fun bt150 => (if (bt128.1.length : Int) = 4 then (if 0 < (bt128.1.length : Int) then (if 2 < (t125.length : Int) then (if (rdOf ByteArray.empty bt128.1 0).toList = (rdOf ByteArray.empty t125 2).toList then (if 1 < (bt128.1.length : Int) then (if 3 < (t125.length : Int) then (if (rdOf ByteArray.empty bt128.1 1).toList = (rdOf ByteArray.empty t125 3).toList then (if 3 < (bt128.1.length : Int) then (if (rdOf ByteArray.empty bt128.1 3).toList = bt150.1.toList then (if bt128.2 = 0 then (if (bt132.1.length : Int) = 1 then (if 0 < (bt132.1.length : Int) then (if (rdOf ByteArray.empty bt132.1 0).toList = bt150.1.toList then (if bt132.2 = 0 then ((cons_Check.f k 4 7 bt141.1 bt143.1 bt132.1).bind fun t158 => (if t158 = 0 then ((cons_Check.f k 4 7 bt143.1 bt141.1 bt132.1).bind fun t159 => (some (t159 == 6))) else (some false))) else (some false)) else (some false)) else (none)) else (some false)) else (some false)) else (some false)) else (none)) else (some false)) else (none)) else (none)) else (some false)) else (none)) else (none)) else (some false))))) else (none)))) else (some false))) = some true := by first | (rw [hy101]; with_reducible exact H) | (have H2_ := (Option.bind_some _ _).symm.trans H; rw [hy101]; with_reducible exact H2_) | (have H2_ := (Option.bind_some _ _).symm.trans H; with_reducible exact H2_) | with_reducible exact H | (rw [hy101]; exact H) | exact H
 have Ny101 := Aside0.mk hy101
 clear hy101
 obtain ⟨y104, hy104⟩ : ∃ y_ : List Int, y_ = (([1] : List Int)) := ⟨_, rfl⟩
 replace H : ((tree_Leaves.f k (([y101, y104, (([2] : List Int)), (([3] : List Int)), (([4] : List Int)), (([5] : List Int)), (([6] : List Int))] : List (List Int)))).bind fun t125 => (if (t125.length : Int) = 7 then ((cons_Prove.f k t125 3).bind fun bt128 => ((cons_Prove.f k t125 4).bind fun bt132 => (if 4 ≤ (t125.length : Int) then ((tree_Root.f k (t125.take 4)).bind fun bt141 => ((tree_Root.f k t125).bind fun bt143 => ((tree_Root.f k (t125.drop 4)).bind fun bt150 => (if (bt128.1.length : Int) = 4 then (if 0 < (bt128.1.length : Int) then (if 2 < (t125.length : Int) then (if (rdOf ByteArray.empty bt128.1 0).toList = (rdOf ByteArray.empty t125 2).toList then (if 1 < (bt128.1.length : Int) then (if 3 < (t125.length : Int) then (if (rdOf ByteArray.empty bt128.1 1).toList = (rdOf ByteArray.empty t125 3).toList then (if 3 < (bt128.1.length : Int) then (if (rdOf ByteArray.empty bt128.1 3).toList = bt150.1.toList then (if bt128.2 = 0 then (if (bt132.1.length : Int) = 1 then (if 0 < (bt132.1.length : Int) then (if (rdOf ByteArray.empty bt132.1 0).toList = bt150.1.toList then (if bt132.2 = 0 then ((cons_Check.f k 4 7 bt141.1 bt143.1 bt132.1).bind fun t158 => (if t158 = 0 then ((cons_Check.f k 4 7 bt143.1 bt141.1 bt132.1).bind fun t159 => (some (t159 == 6))) else (some false))) else (some false)) else (some false)) else (none)) else (some false)) else (some false)) else (some false)) else (none)) else (some false)) else (none)) else (none)) else (some false)) else (none)) else (none)) else (some false))))) else (none)))) else (some false))) = some true := by first | (rw [hy104]; with_reducible exact H) | (have H2_ := (Option.bind_some _ _).symm.trans H; rw [hy104]; with_reducible exact H2_) | (have H2_ := (Option.bind_some _ _).symm.trans H; with_reducible exact H2_) | with_reducible exact H | (rw [hy104]; exact H) | exact H
 have Ny104 := Aside0.mk hy104
 clear hy104
 obtain ⟨y107, hy107⟩ : ∃ y_ : List Int, y_ = (([2] : List Int)) := ⟨_, rfl⟩
 replace H : ((tree_Leaves.f k (([y101, y104, y107, (([3] : List Int)), (([4] : List Int)), (([5] : List Int)), (([6] : List Int))] : List (List Int)))).bind fun t125 => (if (t125.length : Int) = 7 then ((cons_Prove.f k t125 3).bind fun bt128 => ((cons_Prove.f k t125 4).bind fun bt132 => (if 4 ≤ (t125.length : Int) then ((tree_Root.f k (t125.take 4)).bind fun bt141 => ((tree_Root.f k t125).bind fun bt143 => ((tree_Root.f k (t125.drop 4)).bind fun bt150 => (if (bt128.1.length : Int) = 4 then (if 0 < (bt128.1.length : Int) then (if 2 < (t125.length : Int) then (if (rdOf ByteArray.empty bt128.1 0).toList = (rdOf ByteArray.empty t125 2).toList then (if 1 < (bt128.1.length : Int) then (if 3 < (t125.length : Int) then (if (rdOf ByteArray.empty bt128.1 1).toList = (rdOf ByteArray.empty t125 3).toList then (if 3 < (bt128.1.length : Int) then (if (rdOf ByteArray.empty bt128.1 3).toList = bt150.1.toList then (if bt128.2 = 0 then (if (bt132.1.length : Int) = 1 then (if 0 < (bt132.1.length : Int) then (if (rdOf ByteArray.empty bt132.1 0).toList = bt150.1.toList then (if bt132.2 = 0 then ((cons_Check.f k 4 7 bt141.1 bt143.1 bt132.1).bind fun t158 => (if t158 = 0 then ((cons_Check.f k 4 7 bt143.1 bt141.1 bt132.1).bind fun t159 => (some (t159 == 6))) else (some false))) else (some false)) else (some false)) else (none)) else (some false)) else (some false)) else (some false)) else (none)) else (some false)) else (none)) else (none)) else (some false)) else (none)) else (none)) else (some false))))) else (none)))) else (some false))) = some true := by first | (rw [hy107]; with_reducible exact H) | (have H2_ := (Option.bind_some _ _).symm.trans H; rw [hy107]; with_reducible exact H2_) | (have H2_ := (Option.bind_some _ _).symm.trans H; with_reducible exact H2_) | with_reducible exact H | (rw [hy107]; exact H) | exact H
 have Ny107 := Aside0.mk hy107
 clear hy107
 obtain ⟨y110, hy110⟩ : ∃ y_ : List Int, y_ = (([3] : List Int)) := ⟨_, rfl⟩
 replace H : ((tree_Leaves.f k (([y101, y104, y107, y110, (([4] : List Int)), (([5] : List Int)), (([6] : List Int))] : List (List Int)))).bind fun t125 => (if (t125.length : Int) = 7 then ((cons_Prove.f k t125 3).bind fun bt128 => ((cons_Prove.f k t125 4).bind fun bt132 => (if 4 ≤ (t125.length : Int) then ((tree_Root.f k (t125.take 4)).bind fun bt141 => ((tree_Root.f k t125).bind fun bt143 => ((tree_Root.f k (t125.drop 4)).bind fun bt150 => (if (bt128.1.length : Int) = 4 then (if 0 < (bt128.1.length : Int) then (if 2 < (t125.length : Int) then (if (rdOf ByteArray.empty bt128.1 0).toList = (rdOf ByteArray.empty t125 2).toList then (if 1 < (bt128.1.length : Int) then (if 3 < (t125.length : Int) then (if (rdOf ByteArray.empty bt128.1 1).toList = (rdOf ByteArray.empty t125 3).toList then (if 3 < (bt128.1.length : Int) then (if (rdOf ByteArray.empty bt128.1 3).toList = bt150.1.toList then (if bt128.2 = 0 then (if (bt132.1.length : Int) = 1 then (if 0 < (bt132.1.length : Int) then (if (rdOf ByteArray.empty bt132.1 0).toList = bt150.1.toList then (if bt132.2 = 0 then ((cons_Check.f k 4 7 bt141.1 bt143.1 bt132.1).bind fun t158 => (if t158 = 0 then ((cons_Check.f k 4 7 bt143.1 bt141.1 bt132.1).bind fun t159 => (some (t159 == 6))) else (some false))) else (some false)) else (some false)) else (none)) else (some false)) else (some false)) else (some false)) else (none)) else (some false)) else (none)) else (none)) else (some false)) else (none)) else (none)) else (some false))))) else (none)))) else (some false))) = some true := by first | (rw [hy110]; with_reducible exact H) | (have H2_ := (Option.bind_some _ _).symm.trans H; rw [hy110]; with_reducible exact H2_) | (have H2_ := (Option.bind_some _ _).symm.trans H; with_reducible exact H2_) | with_reducible exact H | (rw [hy110]; exact H) | exact H
 have Ny110 := Aside0.mk hy110
 clear hy110
 obtain ⟨y113, hy113⟩ : ∃ y_ : List Int, y_ = (([4] : List Int)) := ⟨_, rfl⟩
 replace H : ((tree_Leaves.f k (([y101, y104, y107, y110, y113, (([5] : List Int)), (([6] : List Int))] : List (List Int)))).bind fun t125 => (if (t125.length : Int) = 7 then ((cons_Prove.f k t125 3).bind fun bt128 => ((cons_Prove.f k t125 4).bind fun bt132 => (if 4 ≤ (t125.length : Int) then ((tree_Root.f k (t125.take 4)).bind fun bt141 => ((tree_Root.f k t125).bind fun bt143 => ((tree_Root.f k (t125.drop 4)).bind fun bt150 => (if (bt128.1.length : Int) = 4 then (if 0 < (bt128.1.length : Int) then (if 2 < (t125.length : Int) then (if (rdOf ByteArray.empty bt128.1 0).toList = (rdOf ByteArray.empty t125 2).toList then (if 1 < (bt128.1.length : Int) then (if 3 < (t125.length : Int) then (if (rdOf ByteArray.empty bt128.1 1).toList = (rdOf ByteArray.empty t125 3).toList then (if 3 < (bt128.1.length : Int) then (if (rdOf ByteArray.empty bt128.1 3).toList = bt150.1.toList then (if bt128.2 = 0 then (if (bt132.1.length : Int) = 1 then (if 0 < (bt132.1.length : Int) then (if (rdOf ByteArray.empty bt132.1 0).toList = bt150.1.toList then (if bt132.2 = 0 then ((cons_Check.f k 4 7 bt141.1 bt143.1 bt132.1).bind fun t158 => (if t158 = 0 then ((cons_Check.f k 4 7 bt143.1 bt141.1 bt132.1).bind fun t159 => (some (t159 == 6))) else (some false))) else (some false)) else (some false)) else (none)) else (some false)) else (some false)) else (some false)) else (none)) else (some false)) else (none)) else (none)) else (some false)) else (none)) else (none)) else (some false))))) else (none)))) else (some false))) = some true := by first | (rw [hy113]; with_reducible exact H) | (have H2_ := (Option.bind_some _ _).symm.trans H; rw [hy113]; with_reducible exact H2_) | (have H2_ := (Option.bind_some _ _).symm.trans H; with_reducible exact H2_) | with_reducible exact H | (rw [hy113]; exact H) | exact H
 have Ny113 := Aside0.mk hy113
 clear hy113
 obtain ⟨y116, hy116⟩ : ∃ y_ : List Int, y_ = (([5] : List Int)) := ⟨_, rfl⟩
 replace H : ((tree_Leaves.f k (([y101, y104, y107, y110, y113, y116, (([6] : List Int))] : List (List Int)))).bind fun t125 => (if (t125.length : Int) = 7 then ((cons_Prove.f k t125 3).bind fun bt128 => ((cons_Prove.f k t125 4).bind fun bt132 => (if 4 ≤ (t125.length : Int) then ((tree_Root.f k (t125.take 4)).bind fun bt141 => ((tree_Root.f k t125).bind fun bt143 => ((tree_Root.f k (t125.drop 4)).bind fun bt150 => (if (bt128.1.length : Int) = 4 then (if 0 < (bt128.1.length : Int) then (if 2 < (t125.length : Int) then (if (rdOf ByteArray.empty bt128.1 0).toList = (rdOf ByteArray.empty t125 2).toList then (if 1 < (bt128.1.length : Int) then (if 3 < (t125.length : Int) then (if (rdOf ByteArray.empty bt128.1 1).toList = (rdOf ByteArray.empty t125 3).toList then (if 3 < (bt128.1.length : Int) then (if (rdOf ByteArray.empty bt128.1 3).toList = bt150.1.toList then (if bt128.2 = 0 then (if (bt132.1.length : Int) = 1 then (if 0 < (bt132.1.length : Int) then (if (rdOf ByteArray.empty bt132.1 0).toList = bt150.1.toList then (if bt132.2 = 0 then ((cons_Check.f k 4 7 bt141.1 bt143.1 bt132.1).bind fun t158 => (if t158 = 0 then ((cons_Check.f k 4 7 bt143.1 bt141.1 bt132.1).bind fun t159 => (some (t159 == 6))) else (some false))) else (some false)) else (some false)) else (none)) else (some false)) else (some false)) else (some false)) else (none)) else (some false)) else (none)) else (none)) else (some false)) else (none)) else (none)) else (some false))))) else (none)))) else (some false))) = some true := by first | (rw [hy116]; with_reducible exact H) | (have H2_ := (Option.bind_some _ _).symm.trans H; rw [hy116]; with_reducible exact H2_) | (have H2_ := (Option.bind_some _ _).symm.trans H; with_reducible exact H2_) | with_reducible exact H | (rw [hy116]; exact H) | exact H
 have Ny116 := Aside0.mk hy116
 clear hy116
 obtain ⟨y119, hy119⟩ : ∃ y_ : List Int, y_ = (([6] : List Int)) := ⟨_, rfl⟩
 replace H : ((tree_Leaves.f k (([y101, y104, y107, y110, y113, y116, y119] : List (List Int)))).bind fun t125 => (if (t125.length : Int) = 7 then ((cons_Prove.f k t125 3).bind fun bt128 => ((cons_Prove.f k t125 4).bind fun bt132 => (if 4 ≤ (t125.length : Int) then ((tree_Root.f k (t125.take 4)).bind fun bt141 => ((tree_Root.f k t125).bind fun bt143 => ((tree_Root.f k (t125.drop 4)).bind fun bt150 => (if (bt128.1.length : Int) = 4 then (if 0 < (bt128.1.length : Int) then (if 2 < (t125.length : Int) then (if (rdOf ByteArray.empty bt128.1 0).toList = (rdOf ByteArray.empty t125 2).toList then (if 1 < (bt128.1.length : Int) then (if 3 < (t125.length : Int) then (if (rdOf ByteArray.empty bt128.1 1).toList = (rdOf ByteArray.empty t125 3).toList then (if 3 < (bt128.1.length : Int) then (if (rdOf ByteArray.empty bt128.1 3).toList = bt150.1.toList then (if bt128.2 = 0 then (if (bt132.1.length : Int) = 1 then (if 0 < (bt132.1.length : Int) then (if (rdOf ByteArray.empty bt132.1 0).toList = bt150.1.toList then (if bt132.2 = 0 then ((cons_Check.f k 4 7 bt141.1 bt143.1 bt132.1).bind fun t158 => (if t158 = 0 then ((cons_Check.f k 4 7 bt143.1 bt141.1 bt132.1).bind fun t159 => (some (t159 == 6))) else (some false))) else (some false)) else (some false)) else (none)) else (some false)) else (some false)) else (some false)) else (none)) else (some false)) else (none)) else (none)) else (some false)) else (none)) else (none)) else (some false))))) else (none)))) else (some false))) = some true := by first | (rw [hy119]; with_reducible exact H) | (have H2_ := (Option.bind_some _ _).symm.trans H; rw [hy119]; with_reducible exact H2_) | (have H2_ := (Option.bind_some _ _).symm.trans H; with_reducible exact H2_) | with_reducible exact H | (rw [hy119]; exact H) | exact H
 have Ny119 := Aside0.mk hy119
 clear hy119
 obtain ⟨y122, hy122⟩ : ∃ y_ : List (List Int), y_ = (([y101, y104, y107, y110, y113, y116, y119] : List (List Int))) := ⟨_, rfl⟩
 replace H : ((tree_Leaves.f k y122).bind fun t125 => (if (t125.length : Int) = 7 then ((cons_Prove.f k t125 3).bind fun bt128 => ((cons_Prove.f k t125 4).bind fun bt132 => (if 4 ≤ (t125.length : Int) then ((tree_Root.f k (t125.take 4)).bind fun bt141 => ((tree_Root.f k t125).bind fun bt143 => ((tree_Root.f k (t125.drop 4)).bind fun bt150 => (if (bt128.1.length : Int) = 4 then (if 0 < (bt128.1.length : Int) then (if 2 < (t125.length : Int) then (if (rdOf ByteArray.empty bt128.1 0).toList = (rdOf ByteArray.empty t125 2).toList then (if 1 < (bt128.1.length : Int) then (if 3 < (t125.length : Int) then (if (rdOf ByteArray.empty bt128.1 1).toList = (rdOf ByteArray.empty t125 3).toList then (if 3 < (bt128.1.length : Int) then (if (rdOf ByteArray.empty bt128.1 3).toList = bt150.1.toList then (if bt128.2 = 0 then (if (bt132.1.length : Int) = 1 then (if 0 < (bt132.1.length : Int) then (if (rdOf ByteArray.empty bt132.1 0).toList = bt150.1.toList then (if bt132.2 = 0 then ((cons_Check.f k 4 7 bt141.1 bt143.1 bt132.1).bind fun t158 => (if t158 = 0 then ((cons_Check.f k 4 7 bt143.1 bt141.1 bt132.1).bind fun t159 => (some (t159 == 6))) else (some false))) else (some false)) else (some false)) else (none)) else (some false)) else (some false)) else (some false)) else (none)) else (some false)) else (none)) else (none)) else (some false)) else (none)) else (none)) else (some false))))) else (none)))) else (some false))) = some true := by first | (rw [hy122]; with_reducible exact H) | (have H2_ := (Option.bind_some _ _).symm.trans H; rw [hy122]; with_reducible exact H2_) | (have H2_ := (Option.bind_some _ _).symm.trans H; with_reducible exact H2_) | with_reducible exact H | (rw [hy122]; exact H) | exact H
 have Ny122 := Aside0.mk hy122
 clear hy122
 replace H := Option.bind_eq_some_iff.mp H
 obtain ⟨t125, A10, H⟩ := H
 replace H : (if (t125.length : Int) = 7 then ((cons_Prove.f k t125 3).bind fun bt128 => ((cons_Prove.f k t125 4).bind fun bt132 => (if 4 ≤ (t125.length : Int) then ((tree_Root.f k (t125.take 4)).bind fun bt141 => ((tree_Root.f k t125).bind fun bt143 => ((tree_Root.f k (t125.drop 4)).bind fun bt150 => (if (bt128.1.length : Int) = 4 then (if 0 < (bt128.1.length : Int) then (if 2 < (t125.length : Int) then (if (rdOf ByteArray.empty bt128.1 0).toList = (rdOf ByteArray.empty t125 2).toList then (if 1 < (bt128.1.length : Int) then (if 3 < (t125.length : Int) then (if (rdOf ByteArray.empty bt128.1 1).toList = (rdOf ByteArray.empty t125 3).toList then (if 3 < (bt128.1.length : Int) then (if (rdOf ByteArray.empty bt128.1 3).toList = bt150.1.toList then (if bt128.2 = 0 then (if (bt132.1.length : Int) = 1 then (if 0 < (bt132.1.length : Int) then (if (rdOf ByteArray.empty bt132.1 0).toList = bt150.1.toList then (if bt132.2 = 0 then ((cons_Check.f k 4 7 bt141.1 bt143.1 bt132.1).bind fun t158 => (if t158 = 0 then ((cons_Check.f k 4 7 bt143.1 bt141.1 bt132.1).bind fun t159 => (some (t159 == 6))) else (some false))) else (some false)) else (some false)) else (none)) else (some false)) else (some false)) else (some false)) else (none)) else (some false)) else (none)) else (none)) else (some false)) else (none)) else (none)) else (some false))))) else (none)))) else (some false)) = some true := H
 have A1 := Aside0.mk A10
 clear A10
 by_cases c2 : (t125.length : Int) = 7
 ·rw [if_pos c2] at H
  have c2b0 : ((t125.length : Int) == 7) = true := beq_iff_eq.mpr c2
  have c2b1 : ((t125.length : Int) != 7) = false := bne_eq_false_iff_eq.mpr c2
  clear c2
  replace H := Option.bind_eq_some_iff.mp H
  obtain ⟨⟨t128, t129⟩, A30, H⟩ := H
  replace H : ((cons_Prove.f k t125 4).bind fun bt132 => (if 4 ≤ (t125.length : Int) then ((tree_Root.f k (t125.take 4)).bind fun bt141 => ((tree_Root.f k t125).bind fun bt143 => ((tree_Root.f k (t125.drop 4)).bind fun bt150 => (if (t128.length : Int) = 4 then (if 0 < (t128.length : Int) then (if 2 < (t125.length : Int) then (if (rdOf ByteArray.empty t128 0).toList = (rdOf ByteArray.empty t125 2).toList then (if 1 < (t128.length : Int) then (if 3 < (t125.length : Int) then (if (rdOf ByteArray.empty t128 1).toList = (rdOf ByteArray.empty t125 3).toList then (if 3 < (t128.length : Int) then (if (rdOf ByteArray.empty t128 3).toList = bt150.1.toList then (if t129 = 0 then (if (bt132.1.length : Int) = 1 then (if 0 < (bt132.1.length : Int) then (if (rdOf ByteArray.empty bt132.1 0).toList = bt150.1.toList then (if bt132.2 = 0 then ((cons_Check.f k 4 7 bt141.1 bt143.1 bt132.1).bind fun t158 => (if t158 = 0 then ((cons_Check.f k 4 7 bt143.1 bt141.1 bt132.1).bind fun t159 => (some (t159 == 6))) else (some false))) else (some false)) else (some false)) else (none)) else (some false)) else (some false)) else (some false)) else (none)) else (some false)) else (none)) else (none)) else (some false)) else (none)) else (none)) else (some false))))) else (none))) = some true := H
  have A3 := Aside0.mk A30
  clear A30
  replace H := Option.bind_eq_some_iff.mp H
  obtain ⟨⟨t132, t133⟩, A40, H⟩ := H
  replace H : (if 4 ≤ (t125.length : Int) then ((tree_Root.f k (t125.take 4)).bind fun bt141 => ((tree_Root.f k t125).bind fun bt143 => ((tree_Root.f k (t125.drop 4)).bind fun bt150 => (if (t128.length : Int) = 4 then (if 0 < (t128.length : Int) then (if 2 < (t125.length : Int) then (if (rdOf ByteArray.empty t128 0).toList = (rdOf ByteArray.empty t125 2).toList then (if 1 < (t128.length : Int) then (if 3 < (t125.length : Int) then (if (rdOf ByteArray.empty t128 1).toList = (rdOf ByteArray.empty t125 3).toList then (if 3 < (t128.length : Int) then (if (rdOf ByteArray.empty t128 3).toList = bt150.1.toList then (if t129 = 0 then (if (t132.length : Int) = 1 then (if 0 < (t132.length : Int) then (if (rdOf ByteArray.empty t132 0).toList = bt150.1.toList then (if t133 = 0 then ((cons_Check.f k 4 7 bt141.1 bt143.1 t132).bind fun t158 => (if t158 = 0 then ((cons_Check.f k 4 7 bt143.1 bt141.1 t132).bind fun t159 => (some (t159 == 6))) else (some false))) else (some false)) else (some false)) else (none)) else (some false)) else (some false)) else (some false)) else (none)) else (some false)) else (none)) else (none)) else (some false)) else (none)) else (none)) else (some false))))) else (none)) = some true := H
  have A4 := Aside0.mk A40
  clear A40
  by_cases c5 : 4 ≤ (t125.length : Int)
  ·rw [if_pos c5] at H
   have c5b0 := eq_true c5
   have c5b1 : decide (4 ≤ (t125.length : Int)) = true := decide_eq_true c5
   clear c5
   obtain ⟨y136, hy136⟩ : ∃ y_ : List ByteArray, y_ = (t125.take 4) := ⟨_, rfl⟩
   replace H : ((tree_Root.f k y136).bind fun bt141 => ((tree_Root.f k t125).bind fun bt143 => ((tree_Root.f k (t125.drop 4)).bind fun bt150 => (if (t128.length : Int) = 4 then (if 0 < (t128.length : Int) then (if 2 < (t125.length : Int) then (if (rdOf ByteArray.empty t128 0).toList = (rdOf ByteArray.empty t125 2).toList then (if 1 < (t128.length : Int) then (if 3 < (t125.length : Int) then (if (rdOf ByteArray.empty t128 1).toList = (rdOf ByteArray.empty t125 3).toList then (if 3 < (t128.length : Int) then (if (rdOf ByteArray.empty t128 3).toList = bt150.1.toList then (if t129 = 0 then (if (t132.length : Int) = 1 then (if 0 < (t132.length : Int) then (if (rdOf ByteArray.empty t132 0).toList = bt150.1.toList then (if t133 = 0 then ((cons_Check.f k 4 7 bt141.1 bt143.1 t132).bind fun t158 => (if t158 = 0 then ((cons_Check.f k 4 7 bt143.1 bt141.1 t132).bind fun t159 => (some (t159 == 6))) else (some false))) else (some false)) else (some false)) else (none)) else (some false)) else (some false)) else (some false)) else (none)) else (some false)) else (none)) else (none)) else (some false)) else (none)) else (none)) else (some false))))) = some true := by first | (rw [hy136]; with_reducible exact H) | (have H2_ := (Option.bind_some _ _).symm.trans H; rw [hy136]; with_reducible exact H2_) | (have H2_ := (Option.bind_some _ _).symm.trans H; with_reducible exact H2_) | with_reducible exact H | (rw [hy136]; exact H) | exact H
   have Ny136 := Aside0.mk hy136
   clear hy136
   replace H := Option.bind_eq_some_iff.mp H
   obtain ⟨⟨t141, t142⟩, A60, H⟩ := H
   replace H : ((tree_Root.f k t125).bind fun bt143 => ((tree_Root.f k (t125.drop 4)).bind fun bt150 => (if (t128.length : Int) = 4 then (if 0 < (t128.length : Int) then (if 2 < (t125.length : Int) then (if (rdOf ByteArray.empty t128 0).toList = (rdOf ByteArray.empty t125 2).toList then (if 1 < (t128.length : Int) then (if 3 < (t125.length : Int) then (if (rdOf ByteArray.empty t128 1).toList = (rdOf ByteArray.empty t125 3).toList then (if 3 < (t128.length : Int) then (if (rdOf ByteArray.empty t128 3).toList = bt150.1.toList then (if t129 = 0 then (if (t132.length : Int) = 1 then (if 0 < (t132.length : Int) then (if (rdOf ByteArray.empty t132 0).toList = bt150.1.toList then (if t133 = 0 then ((cons_Check.f k 4 7 t141 bt143.1 t132).bind fun t158 => (if t158 = 0 then ((cons_Check.f k 4 7 bt143.1 t141 t132).bind fun t159 => (some (t159 == 6))) else (some false))) else (some false)) else (some false)) else (none)) else (some false)) else (some false)) else (some false)) else (none)) else (some false)) else (none)) else (none)) else (some false)) else (none)) else (none)) else (some false)))) = some true := H
   have A6 := Aside0.mk A60
   clear A60
   replace H := Option.bind_eq_some_iff.mp H
   obtain ⟨⟨t143, t144⟩, A70, H⟩ := H
   replace H : ((tree_Root.f k (t125.drop 4)).bind fun bt150 => (if (t128.length : Int) = 4 then (if 0 < (t128.length : Int) then (if 2 < (t125.length : Int) then (if (rdOf ByteArray.empty t128 0).toList = (rdOf ByteArray.empty t125 2).toList then (if 1 < (t128.length : Int) then (if 3 < (t125.length : Int) then (if (rdOf ByteArray.empty t128 1).toList = (rdOf ByteArray.empty t125 3).toList then (if 3 < (t128.length : Int) then (if (rdOf ByteArray.empty t128 3).toList = bt150.1.toList then (if t129 = 0 then (if (t132.length : Int) = 1 then (if 0 < (t132.length : Int) then (if (rdOf ByteArray.empty t132 0).toList = bt150.1.toList then (if t133 = 0 then ((cons_Check.f k 4 7 t141 t143 t132).bind fun t158 => (if t158 = 0 then ((cons_Check.f k 4 7 t143 t141 t132).bind fun t159 => (some (t159 == 6))) else (some false))) else (some false)) else (some false)) else (none)) else (some false)) else (some false)) else (some false)) else (none)) else (some false)) else (none)) else (none)) else (some false)) else (none)) else (none)) else (some false))) = some true := H
   have A7 := Aside0.mk A70
   clear A70
   have c8b0 := eq_true (of_decide_eq_true (by first | (with_reducible assumption) | assumption) : 4 ≤ (t125.length : Int))
   obtain ⟨y145, hy145⟩ : ∃ y_ : List ByteArray, y_ = (t125.drop 4) := ⟨_, rfl⟩
   replace H : ((tree_Root.f k y145).bind fun bt150 => (if (t128.length : Int) = 4 then (if 0 < (t128.length : Int) then (if 2 < (t125.length : Int) then (if (rdOf ByteArray.empty t128 0).toList = (rdOf ByteArray.empty t125 2).toList then (if 1 < (t128.length : Int) then (if 3 < (t125.length : Int) then (if (rdOf ByteArray.empty t128 1).toList = (rdOf ByteArray.empty t125 3).toList then (if 3 < (t128.length : Int) then (if (rdOf ByteArray.empty t128 3).toList = bt150.1.toList then (if t129 = 0 then (if (t132.length : Int) = 1 then (if 0 < (t132.length : Int) then (if (rdOf ByteArray.empty t132 0).toList = bt150.1.toList then (if t133 = 0 then ((cons_Check.f k 4 7 t141 t143 t132).bind fun t158 => (if t158 = 0 then ((cons_Check.f k 4 7 t143 t141 t132).bind fun t159 => (some (t159 == 6))) else (some false))) else (some false)) else (some false)) else (none)) else (some false)) else (some false)) else (some false)) else (none)) else (some false)) else (none)) else (none)) else (some false)) else (none)) else (none)) else (some false))) = some true := by first | (rw [hy145]; with_reducible exact H) | (have H2_ := (Option.bind_some _ _).symm.trans H; rw [hy145]; with_reducible exact H2_) | (have H2_ := (Option.bind_some _ _).symm.trans H; with_reducible exact H2_) | with_reducible exact H | (rw [hy145]; exact H) | exact H
   have Ny145 := Aside0.mk hy145
   clear hy145
   replace H := Option.bind_eq_some_iff.mp H
   obtain ⟨⟨t150, t151⟩, A90, H⟩ := H
   replace H : (if (t128.length : Int) = 4 then (if 0 < (t128.length : Int) then (if 2 < (t125.length : Int) then (if (rdOf ByteArray.empty t128 0).toList = (rdOf ByteArray.empty t125 2).toList then (if 1 < (t128.length : Int) then (if 3 < (t125.length : Int) then (if (rdOf ByteArray.empty t128 1).toList = (rdOf ByteArray.empty t125 3).toList then (if 3 < (t128.length : Int) then (if (rdOf ByteArray.empty t128 3).toList = t150.toList then (if t129 = 0 then (if (t132.length : Int) = 1 then (if 0 < (t132.length : Int) then (if (rdOf ByteArray.empty t132 0).toList = t150.toList then (if t133 = 0 then ((cons_Check.f k 4 7 t141 t143 t132).bind fun t158 => (if t158 = 0 then ((cons_Check.f k 4 7 t143 t141 t132).bind fun t159 => (some (t159 == 6))) else (some false))) else (some false)) else (some false)) else (none)) else (some false)) else (some false)) else (some false)) else (none)) else (some false)) else (none)) else (none)) else (some false)) else (none)) else (none)) else (some false)) = some true := H
   have A9 := Aside0.mk A90
   clear A90
   by_cases c10 : (t128.length : Int) = 4
   ·rw [if_pos c10] at H
    have c10b0 : ((t128.length : Int) == 4) = true := beq_iff_eq.mpr c10
    have c10b1 : ((t128.length : Int) != 4) = false := bne_eq_false_iff_eq.mpr c10
    clear c10
    by_cases c11 : 0 < (t128.length : Int)
    ·rw [if_pos c11] at H
     have c11b0 : decide (0 < (t128.length : Int)) = true := decide_eq_true c11
     have c11b1 : decide (0 < t128.length) = true := decide_eq_true (by omega)
     clear c11
     by_cases c12 : 2 < (t125.length : Int)
     ·rw [if_pos c12] at H
      have c12b0 : decide (2 < (t125.length : Int)) = true := decide_eq_true c12
      have c12b1 : decide (2 < t125.length) = true := decide_eq_true (by omega)
      clear c12
      by_cases c13 : (rdOf ByteArray.empty t128 0).toList = (rdOf ByteArray.empty t125 2).toList
      ·rw [if_pos c13] at H
       have c13b0 : ((rdOf ByteArray.empty t128 0).toList == (rdOf ByteArray.empty t125 2).toList) = true := beq_iff_eq.mpr c13
       have c13b1 : ((rdOf ByteArray.empty t128 0).toList != (rdOf ByteArray.empty t125 2).toList) = false := bne_eq_false_iff_eq.mpr c13
       clear c13
       by_cases c14 : 1 < (t128.length : Int)
       ·rw [if_pos c14] at H
        have c14b0 : decide (1 < (t128.length : Int)) = true := decide_eq_true c14
        have c14b1 : decide (1 < t128.length) = true := decide_eq_true (by omega)
        clear c14
        by_cases c15 : 3 < (t125.length : Int)
        ·rw [if_pos c15] at H
         have c15b0 : decide (3 < (t125.length : Int)) = true := decide_eq_true c15
         have c15b1 : decide (3 < t125.length) = true := decide_eq_true (by omega)
         clear c15
         by_cases c16 : (rdOf ByteArray.empty t128 1).toList = (rdOf ByteArray.empty t125 3).toList
         ·rw [if_pos c16] at H
          have c16b0 : ((rdOf ByteArray.empty t128 1).toList == (rdOf ByteArray.empty t125 3).toList) = true := beq_iff_eq.mpr c16
          have c16b1 : ((rdOf ByteArray.empty t128 1).toList != (rdOf ByteArray.empty t125 3).toList) = false := bne_eq_false_iff_eq.mpr c16
          clear c16
          by_cases c17 : 3 < (t128.length : Int)
          ·rw [if_pos c17] at H
           have c17b0 : decide (3 < (t128.length : Int)) = true := decide_eq_true c17
           have c17b1 : decide (3 < t128.length) = true := decide_eq_true (by omega)
           clear c17
           by_cases c18 : (rdOf ByteArray.empty t128 3).toList = t150.toList
           ·rw [if_pos c18] at H
            have c18b0 : ((rdOf ByteArray.empty t128 3).toList == t150.toList) = true := beq_iff_eq.mpr c18
            have c18b1 : ((rdOf ByteArray.empty t128 3).toList != t150.toList) = false := bne_eq_false_iff_eq.mpr c18
            clear c18
            by_cases c19 : t129 = 0
            ·rw [if_pos c19] at H
             have c19b0 : (t129 == 0) = true := beq_iff_eq.mpr c19
             have c19b1 : (t129 != 0) = false := bne_eq_false_iff_eq.mpr c19
             clear c19
             by_cases c20 : (t132.length : Int) = 1
             ·rw [if_pos c20] at H
              have c20b0 : ((t132.length : Int) == 1) = true := beq_iff_eq.mpr c20
              have c20b1 : ((t132.length : Int) != 1) = false := bne_eq_false_iff_eq.mpr c20
              clear c20
              by_cases c21 : 0 < (t132.length : Int)
              ·rw [if_pos c21] at H
               have c21b0 : decide (0 < (t132.length : Int)) = true := decide_eq_true c21
               have c21b1 : decide (0 < t132.length) = true := decide_eq_true (by omega)
               clear c21
               by_cases c22 : (rdOf ByteArray.empty t132 0).toList = t150.toList
               ·rw [if_pos c22] at H
                have c22b0 : ((rdOf ByteArray.empty t132 0).toList == t150.toList) = true := beq_iff_eq.mpr c22
                have c22b1 : ((rdOf ByteArray.empty t132 0).toList != t150.toList) = false := bne_eq_false_iff_eq.mpr c22
                clear c22
                by_cases c23 : t133 = 0
                ·rw [if_pos c23] at H
                 have c23b0 : (t133 == 0) = true := beq_iff_eq.mpr c23
                 have c23b1 : (t133 != 0) = false := bne_eq_false_iff_eq.mpr c23
                 clear c23
                 replace H := Option.bind_eq_some_iff.mp H
                 obtain ⟨t158, A240, H⟩ := H
                 replace H : (if t158 = 0 then ((cons_Check.f k 4 7 t143 t141 t132).bind fun t159 => (some (t159 == 6))) else (some false)) = some true := H
                 have A24 := Aside0.mk A240
                 clear A240
                 by_cases c25 : t158 = 0
                 ·rw [if_pos c25] at H
                  have c25b0 : (t158 == 0) = true := beq_iff_eq.mpr c25
                  have c25b1 : (t158 != 0) = false := bne_eq_false_iff_eq.mpr c25
                  clear c25
                  replace H := Option.bind_eq_some_iff.mp H
                  obtain ⟨t159, A260, H⟩ := H
                  replace H : (some (t159 == 6)) = some true := H
                  have A26 := Aside0.mk A260
                  clear A260
                  have HT2_ := Aside0.mk (Option.some.inj H)
                  clear H
                  go_enter Tryd.func15, Tryd.ntmps15
                  try go_wp2_with (first | ((with_reducible refine gate_dst (N := 12) rfl ?_); (try (refine gate_guard (by rfl) ?_; dsimp only)); refine Kd.R_lit (Kd.int .u8) _ 5 ?hg (N := 12) ?hd (xs := ([0] : List Int)) (inner := [.int .u8 0]) (ok := fun _ => True) (okp := fun _ => True) ?hr ?hp (fun _ hk => hk) trivial (Below.refl _ _) (Nat.le_refl _) (by simp) ?_; (case hd => rfl); (case hg => rfl); (case hr => first | (go_simp; done) | (go_simp; rfl)); (case hp => exact (Reps.one (show Kd.M (Kd.int .u8) _ _ _ 0 [.int .u8 0] from rfl) (Reps.none _ _))); intro v102 w27 ho28 hb hg_ hnew_; clear hg_ hnew_; (first | rw [← Ny101.out] at ho28 | (simp only [Int.reduceToNat] at ho28; rw [← Ny101.out] at ho28)); have n0_ := Aside0.mk (Kd.R_lower ho28 (below_size (by repeat (first | (with_reducible first | exact HB.out | apply below_alloc | apply pw_below_drewN | apply below_drew1) | exact HB.out)))); have n1_ := Aside0.mk (below_step (by repeat (first | (with_reducible first | exact HB.out | apply below_alloc | apply pw_below_drewN | apply below_drew1) | exact HB.out)) hb); clear HB; have HO103 := n0_; have HB := n1_; clear n0_ n1_; clear hb ho28) | ((with_reducible refine gate_dst (N := 13) rfl ?_); (try (refine gate_guard (by rfl) ?_; dsimp only)); refine Kd.R_lit (Kd.int .u8) _ 5 ?hg (N := 13) ?hd (xs := ([1] : List Int)) (inner := [.int .u8 1]) (ok := fun _ => True) (okp := fun _ => True) ?hr ?hp (fun _ hk => hk) trivial (Below.refl _ _) (Nat.le_refl _) (by simp) ?_; (case hd => rfl); (case hg => rfl); (case hr => first | (go_simp; done) | (go_simp; rfl)); (case hp => exact (Reps.one (show Kd.M (Kd.int .u8) _ _ _ 1 [.int .u8 1] from rfl) (Reps.none _ _))); intro v105 w29 ho30 hb hg_ hnew_; clear hg_ hnew_; (first | rw [← Ny104.out] at ho30 | (simp only [Int.reduceToNat] at ho30; rw [← Ny104.out] at ho30)); have n0_ := Aside0.mk (Kd.R_elder' (by (with_reducible repeat (first | apply Kd.R_alloc | apply Kd.R_drewN | apply Kd.R_drew)); exact HO103.out) (Kd.R_base ho30) hb); have n1_ := Aside0.mk (Kd.R_lower (Kd.R_new' ho30 (Kd.R_lt (by (with_reducible repeat (first | apply Kd.R_alloc | apply Kd.R_drewN | apply Kd.R_drew)); exact HO103.out))) (below_size (by repeat (first | (with_reducible first | exact HB.out | apply below_alloc | apply pw_below_drewN | apply below_drew1) | exact HB.out)))); have n2_ := Aside0.mk (below_step (by repeat (first | (with_reducible first | exact HB.out | apply below_alloc | apply pw_below_drewN | apply below_drew1) | exact HB.out)) hb); clear HO103; clear HB; have HO103 := n0_; have HO106 := n1_; have HB := n2_; clear n0_ n1_ n2_; clear hb ho30) | ((with_reducible refine gate_dst (N := 14) rfl ?_); (try (refine gate_guard (by rfl) ?_; dsimp only)); refine Kd.R_lit (Kd.int .u8) _ 5 ?hg (N := 14) ?hd (xs := ([2] : List Int)) (inner := [.int .u8 2]) (ok := fun _ => True) (okp := fun _ => True) ?hr ?hp (fun _ hk => hk) trivial (Below.refl _ _) (Nat.le_refl _) (by simp) ?_; (case hd => rfl); (case hg => rfl); (case hr => first | (go_simp; done) | (go_simp; rfl)); (case hp => exact (Reps.one (show Kd.M (Kd.int .u8) _ _ _ 2 [.int .u8 2] from rfl) (Reps.none _ _))); intro v108 w31 ho32 hb hg_ hnew_; clear hg_ hnew_; (first | rw [← Ny107.out] at ho32 | (simp only [Int.reduceToNat] at ho32; rw [← Ny107.out] at ho32)); have n0_ := Aside0.mk (Kd.R_elder' (by (with_reducible repeat (first | apply Kd.R_alloc | apply Kd.R_drewN | apply Kd.R_drew)); exact HO103.out) (Kd.R_base ho32) hb); have n1_ := Aside0.mk (Kd.R_elder' (by (with_reducible repeat (first | apply Kd.R_alloc | apply Kd.R_drewN | apply Kd.R_drew)); exact HO106.out) (Kd.R_base ho32) hb); have n2_ := Aside0.mk (Kd.R_lower (Kd.R_new' (Kd.R_new' ho32 (Kd.R_lt (by (with_reducible repeat (first | apply Kd.R_alloc | apply Kd.R_drewN | apply Kd.R_drew)); exact HO103.out))) (Kd.R_lt (by (with_reducible repeat (first | apply Kd.R_alloc | apply Kd.R_drewN | apply Kd.R_drew)); exact HO106.out))) (below_size (by repeat (first | (with_reducible first | exact HB.out | apply below_alloc | apply pw_below_drewN | apply below_drew1) | exact HB.out)))); have n3_ := Aside0.mk (below_step (by repeat (first | (with_reducible first | exact HB.out | apply below_alloc | apply pw_below_drewN | apply below_drew1) | exact HB.out)) hb); clear HO103; clear HO106; clear HB; have HO103 := n0_; have HO106 := n1_; have HO109 := n2_; have HB := n3_; clear n0_ n1_ n2_ n3_; clear hb ho32) | ((with_reducible refine gate_dst (N := 15) rfl ?_); (try (refine gate_guard (by rfl) ?_; dsimp only)); refine Kd.R_lit (Kd.int .u8) _ 5 ?hg (N := 15) ?hd (xs := ([3] : List Int)) (inner := [.int .u8 3]) (ok := fun _ => True) (okp := fun _ => True) ?hr ?hp (fun _ hk => hk) trivial (Below.refl _ _) (Nat.le_refl _) (by simp) ?_; (case hd => rfl); (case hg => rfl); (case hr => first | (go_simp; done) | (go_simp; rfl)); (case hp => exact (Reps.one (show Kd.M (Kd.int .u8) _ _ _ 3 [.int .u8 3] from rfl) (Reps.none _ _))); intro v111 w33 ho34 hb hg_ hnew_; clear hg_ hnew_; (first | rw [← Ny110.out] at ho34 | (simp only [Int.reduceToNat] at ho34; rw [← Ny110.out] at ho34)); have n0_ := Aside0.mk (Kd.R_elder' (by (with_reducible repeat (first | apply Kd.R_alloc | apply Kd.R_drewN | apply Kd.R_drew)); exact HO103.out) (Kd.R_base ho34) hb); have n1_ := Aside0.mk (Kd.R_elder' (by (with_reducible repeat (first | apply Kd.R_alloc | apply Kd.R_drewN | apply Kd.R_drew)); exact HO106.out) (Kd.R_base ho34) hb); have n2_ := Aside0.mk (Kd.R_elder' (by (with_reducible repeat (first | apply Kd.R_alloc | apply Kd.R_drewN | apply Kd.R_drew)); exact HO109.out) (Kd.R_base ho34) hb); have n3_ := Aside0.mk (Kd.R_lower (Kd.R_new' (Kd.R_new' (Kd.R_new' ho34 (Kd.R_lt (by (with_reducible repeat (first | apply Kd.R_alloc | apply Kd.R_drewN | apply Kd.R_drew)); exact HO103.out))) (Kd.R_lt (by (with_reducible repeat (first | apply Kd.R_alloc | apply Kd.R_drewN | apply Kd.R_drew)); exact HO106.out))) (Kd.R_lt (by (with_reducible repeat (first | apply Kd.R_alloc | apply Kd.R_drewN | apply Kd.R_drew)); exact HO109.out))) (below_size (by repeat (first | (with_reducible first | exact HB.out | apply below_alloc | apply pw_below_drewN | apply below_drew1) | exact HB.out)))); have n4_ := Aside0.mk (below_step (by repeat (first | (with_reducible first | exact HB.out | apply below_alloc | apply pw_below_drewN | apply below_drew1) | exact HB.out)) hb); clear HO103; clear HO106; clear HO109; clear HB; have HO103 := n0_; have HO106 := n1_; have HO109 := n2_; have HO112 := n3_; have HB := n4_; clear n0_ n1_ n2_ n3_ n4_; clear hb ho34) | ((with_reducible refine gate_dst (N := 16) rfl ?_); (try (refine gate_guard (by rfl) ?_; dsimp only)); refine Kd.R_lit (Kd.int .u8) _ 5 ?hg (N := 16) ?hd (xs := ([4] : List Int)) (inner := [.int .u8 4]) (ok := fun _ => True) (okp := fun _ => True) ?hr ?hp (fun _ hk => hk) trivial (Below.refl _ _) (Nat.le_refl _) (by simp) ?_; (case hd => rfl); (case hg => rfl); (case hr => first | (go_simp; done) | (go_simp; rfl)); (case hp => exact (Reps.one (show Kd.M (Kd.int .u8) _ _ _ 4 [.int .u8 4] from rfl) (Reps.none _ _))); intro v114 w35 ho36 hb hg_ hnew_; clear hg_ hnew_; (first | rw [← Ny113.out] at ho36 | (simp only [Int.reduceToNat] at ho36; rw [← Ny113.out] at ho36)); have n0_ := Aside0.mk (Kd.R_elder' (by (with_reducible repeat (first | apply Kd.R_alloc | apply Kd.R_drewN | apply Kd.R_drew)); exact HO103.out) (Kd.R_base ho36) hb); have n1_ := Aside0.mk (Kd.R_elder' (by (with_reducible repeat (first | apply Kd.R_alloc | apply Kd.R_drewN | apply Kd.R_drew)); exact HO106.out) (Kd.R_base ho36) hb); have n2_ := Aside0.mk (Kd.R_elder' (by (with_reducible repeat (first | apply Kd.R_alloc | apply Kd.R_drewN | apply Kd.R_drew)); exact HO109.out) (Kd.R_base ho36) hb); have n3_ := Aside0.mk (Kd.R_elder' (by (with_reducible repeat (first | apply Kd.R_alloc | apply Kd.R_drewN | apply Kd.R_drew)); exact HO112.out) (Kd.R_base ho36) hb); have n4_ := Aside0.mk (Kd.R_lower (Kd.R_new' (Kd.R_new' (Kd.R_new' (Kd.R_new' ho36 (Kd.R_lt (by (with_reducible repeat (first | apply Kd.R_alloc | apply Kd.R_drewN | apply Kd.R_drew)); exact HO103.out))) (Kd.R_lt (by (with_reducible repeat (first | apply Kd.R_alloc | apply Kd.R_drewN | apply Kd.R_drew)); exact HO106.out))) (Kd.R_lt (by (with_reducible repeat (first | apply Kd.R_alloc | apply Kd.R_drewN | apply Kd.R_drew)); exact HO109.out))) (Kd.R_lt (by (with_reducible repeat (first | apply Kd.R_alloc | apply Kd.R_drewN | apply Kd.R_drew)); exact HO112.out))) (below_size (by repeat (first | (with_reducible first | exact HB.out | apply below_alloc | apply pw_below_drewN | apply below_drew1) | exact HB.out)))); have n5_ := Aside0.mk (below_step (by repeat (first | (with_reducible first | exact HB.out | apply below_alloc | apply pw_below_drewN | apply below_drew1) | exact HB.out)) hb); clear HO103; clear HO106; clear HO109; clear HO112; clear HB; have HO103 := n0_; have HO106 := n1_; have HO109 := n2_; have HO112 := n3_; have HO115 := n4_; have HB := n5_; clear n0_ n1_ n2_ n3_ n4_ n5_; clear hb ho36) | ((with_reducible refine gate_dst (N := 17) rfl ?_); (try (refine gate_guard (by rfl) ?_; dsimp only)); refine Kd.R_lit (Kd.int .u8) _ 5 ?hg (N := 17) ?hd (xs := ([5] : List Int)) (inner := [.int .u8 5]) (ok := fun _ => True) (okp := fun _ => True) ?hr ?hp (fun _ hk => hk) trivial (Below.refl _ _) (Nat.le_refl _) (by simp) ?_; (case hd => rfl); (case hg => rfl); (case hr => first | (go_simp; done) | (go_simp; rfl)); (case hp => exact (Reps.one (show Kd.M (Kd.int .u8) _ _ _ 5 [.int .u8 5] from rfl) (Reps.none _ _))); intro v117 w37 ho38 hb hg_ hnew_; clear hg_ hnew_; (first | rw [← Ny116.out] at ho38 | (simp only [Int.reduceToNat] at ho38; rw [← Ny116.out] at ho38)); have n0_ := Aside0.mk (Kd.R_elder' (by (with_reducible repeat (first | apply Kd.R_alloc | apply Kd.R_drewN | apply Kd.R_drew)); exact HO103.out) (Kd.R_base ho38) hb); have n1_ := Aside0.mk (Kd.R_elder' (by (with_reducible repeat (first | apply Kd.R_alloc | apply Kd.R_drewN | apply Kd.R_drew)); exact HO106.out) (Kd.R_base ho38) hb); have n2_ := Aside0.mk (Kd.R_elder' (by (with_reducible repeat (first | apply Kd.R_alloc | apply Kd.R_drewN | apply Kd.R_drew)); exact HO109.out) (Kd.R_base ho38) hb); have n3_ := Aside0.mk (Kd.R_elder' (by (with_reducible repeat (first | apply Kd.R_alloc | apply Kd.R_drewN | apply Kd.R_drew)); exact HO112.out) (Kd.R_base ho38) hb); have n4_ := Aside0.mk (Kd.R_elder' (by (with_reducible repeat (first | apply Kd.R_alloc | apply Kd.R_drewN | apply Kd.R_drew)); exact HO115.out) (Kd.R_base ho38) hb); have n5_ := Aside0.mk (Kd.R_lower (Kd.R_new' (Kd.R_new' (Kd.R_new' (Kd.R_new' (Kd.R_new' ho38 (Kd.R_lt (by (with_reducible repeat (first | apply Kd.R_alloc | apply Kd.R_drewN | apply Kd.R_drew)); exact HO103.out))) (Kd.R_lt (by (with_reducible repeat (first | apply Kd.R_alloc | apply Kd.R_drewN | apply Kd.R_drew)); exact HO106.out))) (Kd.R_lt (by (with_reducible repeat (first | apply Kd.R_alloc | apply Kd.R_drewN | apply Kd.R_drew)); exact HO109.out))) (Kd.R_lt (by (with_reducible repeat (first | apply Kd.R_alloc | apply Kd.R_drewN | apply Kd.R_drew)); exact HO112.out))) (Kd.R_lt (by (with_reducible repeat (first | apply Kd.R_alloc | apply Kd.R_drewN | apply Kd.R_drew)); exact HO115.out))) (below_size (by repeat (first | (with_reducible first | exact HB.out | apply below_alloc | apply pw_below_drewN | apply below_drew1) | exact HB.out)))); have n6_ := Aside0.mk (below_step (by repeat (first | (with_reducible first | exact HB.out | apply below_alloc | apply pw_below_drewN | apply below_drew1) | exact HB.out)) hb); clear HO103; clear HO106; clear HO109; clear HO112; clear HO115; clear HB; have HO103 := n0_; have HO106 := n1_; have HO109 := n2_; have HO112 := n3_; have HO115 := n4_; have HO118 := n5_; have HB := n6_; clear n0_ n1_ n2_ n3_ n4_ n5_ n6_; clear hb ho38) | ((with_reducible refine gate_dst (N := 18) rfl ?_); (try (refine gate_guard (by rfl) ?_; dsimp only)); refine Kd.R_lit (Kd.int .u8) _ 5 ?hg (N := 18) ?hd (xs := ([6] : List Int)) (inner := [.int .u8 6]) (ok := fun _ => True) (okp := fun _ => True) ?hr ?hp (fun _ hk => hk) trivial (Below.refl _ _) (Nat.le_refl _) (by simp) ?_; (case hd => rfl); (case hg => rfl); (case hr => first | (go_simp; done) | (go_simp; rfl)); (case hp => exact (Reps.one (show Kd.M (Kd.int .u8) _ _ _ 6 [.int .u8 6] from rfl) (Reps.none _ _))); intro v120 w39 ho40 hb hg_ hnew_; clear hg_ hnew_; (first | rw [← Ny119.out] at ho40 | (simp only [Int.reduceToNat] at ho40; rw [← Ny119.out] at ho40)); have n0_ := Aside0.mk (Kd.R_elder' (by (with_reducible repeat (first | apply Kd.R_alloc | apply Kd.R_drewN | apply Kd.R_drew)); exact HO103.out) (Kd.R_base ho40) hb); have n1_ := Aside0.mk (Kd.R_elder' (by (with_reducible repeat (first | apply Kd.R_alloc | apply Kd.R_drewN | apply Kd.R_drew)); exact HO106.out) (Kd.R_base ho40) hb); have n2_ := Aside0.mk (Kd.R_elder' (by (with_reducible repeat (first | apply Kd.R_alloc | apply Kd.R_drewN | apply Kd.R_drew)); exact HO109.out) (Kd.R_base ho40) hb); have n3_ := Aside0.mk (Kd.R_elder' (by (with_reducible repeat (first | apply Kd.R_alloc | apply Kd.R_drewN | apply Kd.R_drew)); exact HO112.out) (Kd.R_base ho40) hb); have n4_ := Aside0.mk (Kd.R_elder' (by (with_reducible repeat (first | apply Kd.R_alloc | apply Kd.R_drewN | apply Kd.R_drew)); exact HO115.out) (Kd.R_base ho40) hb); have n5_ := Aside0.mk (Kd.R_elder' (by (with_reducible repeat (first | apply Kd.R_alloc | apply Kd.R_drewN | apply Kd.R_drew)); exact HO118.out) (Kd.R_base ho40) hb); have n6_ := Aside0.mk (Kd.R_lower (Kd.R_new' (Kd.R_new' (Kd.R_new' (Kd.R_new' (Kd.R_new' (Kd.R_new' ho40 (Kd.R_lt (by (with_reducible repeat (first | apply Kd.R_alloc | apply Kd.R_drewN | apply Kd.R_drew)); exact HO103.out))) (Kd.R_lt (by (with_reducible repeat (first | apply Kd.R_alloc | apply Kd.R_drewN | apply Kd.R_drew)); exact HO106.out))) (Kd.R_lt (by (with_reducible repeat (first | apply Kd.R_alloc | apply Kd.R_drewN | apply Kd.R_drew)); exact HO109.out))) (Kd.R_lt (by (with_reducible repeat (first | apply Kd.R_alloc | apply Kd.R_drewN | apply Kd.R_drew)); exact HO112.out))) (Kd.R_lt (by (with_reducible repeat (first | apply Kd.R_alloc | apply Kd.R_drewN | apply Kd.R_drew)); exact HO115.out))) (Kd.R_lt (by (with_reducible repeat (first | apply Kd.R_alloc | apply Kd.R_drewN | apply Kd.R_drew)); exact HO118.out))) (below_size (by repeat (first | (with_reducible first | exact HB.out | apply below_alloc | apply pw_below_drewN | apply below_drew1) | exact HB.out)))); have n7_ := Aside0.mk (below_step (by repeat (first | (with_reducible first | exact HB.out | apply below_alloc | apply pw_below_drewN | apply below_drew1) | exact HB.out)) hb); clear HO103; clear HO106; clear HO109; clear HO112; clear HO115; clear HO118; clear HB; have HO103 := n0_; have HO106 := n1_; have HO109 := n2_; have HO112 := n3_; have HO115 := n4_; have HO118 := n5_; have HO121 := n6_; have HB := n7_; clear n0_ n1_ n2_ n3_ n4_ n5_ n6_ n7_; clear hb ho40; obtain ⟨Ao41, co41, eo41⟩ := Kd.R_slice HO103.out; subst eo41; obtain ⟨Ao42, co42, eo42⟩ := Kd.R_slice HO106.out; subst eo42; obtain ⟨Ao43, co43, eo43⟩ := Kd.R_slice HO109.out; subst eo43; obtain ⟨Ao44, co44, eo44⟩ := Kd.R_slice HO112.out; subst eo44; obtain ⟨Ao45, co45, eo45⟩ := Kd.R_slice HO115.out; subst eo45; obtain ⟨Ao46, co46, eo46⟩ := Kd.R_slice HO118.out; subst eo46; obtain ⟨Ao47, co47, eo47⟩ := Kd.R_slice HO121.out; subst eo47) | ((with_reducible refine gate_dst (N := 19) rfl ?_); (try (refine gate_guard (by rfl) ?_; dsimp only)); refine Kd.N_lit (Kd.slice 5 (Kd.int .u8)) _ 41 ?hg (N' := 19) ?hd (xs := ([y101, y104, y107, y110, y113, y116, y119] : List (List Int))) (inner := [.slice Ao41 y101.length co41, .slice Ao42 y104.length co42, .slice Ao43 y107.length co43, .slice Ao44 y110.length co44, .slice Ao45 y113.length co45, .slice Ao46 y116.length co46, .slice Ao47 y119.length co47]) (ok := (fun _ => True)) (okp := (fun _ => True)) ?hr ?hp (fun _ hk => hk) ((show ∀ k_, w39.heap.size ≤ k_ → (fun _ => True) k_ from fun k_ hk => trivial) _ (Nat.le_refl _)) (Below.refl _ _) (Nat.le_refl _) (by simp) ?_; (case hd => rfl); (case hg => rfl); (case hr => first | (go_simp; done) | (go_simp; rfl)); (case hp => exact (Reps.one (show Kd.FK (Kd.slice 5 (Kd.int .u8)) _ _ y101 [.slice Ao41 y101.length co41] from (Kd.FK_slice_mk (Kd.R_reads' (Kd.R_mono (ok' := (fun _ => True)) (HO103.out) (fun k_ hk => trivial))).2.1 (Kd.R_F (Kd.R_mono (ok' := (fun _ => True)) (HO103.out) (fun k_ hk => trivial))))) (Reps.one (show Kd.FK (Kd.slice 5 (Kd.int .u8)) _ _ y104 [.slice Ao42 y104.length co42] from (Kd.FK_slice_mk (Kd.R_reads' (Kd.R_mono (ok' := (fun _ => True)) (HO106.out) (fun k_ hk => trivial))).2.1 (Kd.R_F (Kd.R_mono (ok' := (fun _ => True)) (HO106.out) (fun k_ hk => trivial))))) (Reps.one (show Kd.FK (Kd.slice 5 (Kd.int .u8)) _ _ y107 [.slice Ao43 y107.length co43] from (Kd.FK_slice_mk (Kd.R_reads' (Kd.R_mono (ok' := (fun _ => True)) (HO109.out) (fun k_ hk => trivial))).2.1 (Kd.R_F (Kd.R_mono (ok' := (fun _ => True)) (HO109.out) (fun k_ hk => trivial))))) (Reps.one (show Kd.FK (Kd.slice 5 (Kd.int .u8)) _ _ y110 [.slice Ao44 y110.length co44] from (Kd.FK_slice_mk (Kd.R_reads' (Kd.R_mono (ok' := (fun _ => True)) (HO112.out) (fun k_ hk => trivial))).2.1 (Kd.R_F (Kd.R_mono (ok' := (fun _ => True)) (HO112.out) (fun k_ hk => trivial))))) (Reps.one (show Kd.FK (Kd.slice 5 (Kd.int .u8)) _ _ y113 [.slice Ao45 y113.length co45] from (Kd.FK_slice_mk (Kd.R_reads' (Kd.R_mono (ok' := (fun _ => True)) (HO115.out) (fun k_ hk => trivial))).2.1 (Kd.R_F (Kd.R_mono (ok' := (fun _ => True)) (HO115.out) (fun k_ hk => trivial))))) (Reps.one (show Kd.FK (Kd.slice 5 (Kd.int .u8)) _ _ y116 [.slice Ao46 y116.length co46] from (Kd.FK_slice_mk (Kd.R_reads' (Kd.R_mono (ok' := (fun _ => True)) (HO118.out) (fun k_ hk => trivial))).2.1 (Kd.R_F (Kd.R_mono (ok' := (fun _ => True)) (HO118.out) (fun k_ hk => trivial))))) (Reps.one (show Kd.FK (Kd.slice 5 (Kd.int .u8)) _ _ y119 [.slice Ao47 y119.length co47] from (Kd.FK_slice_mk (Kd.R_reads' (Kd.R_mono (ok' := (fun _ => True)) (HO121.out) (fun k_ hk => trivial))).2.1 (Kd.R_F (Kd.R_mono (ok' := (fun _ => True)) (HO121.out) (fun k_ hk => trivial))))) (Reps.none _ _))))))))); intro v123 w48 ho49 hb hg_ hnew_; clear hg_ hnew_; (first | rw [← Ny122.out] at ho49 | (simp only [Int.reduceToNat] at ho49; rw [← Ny122.out] at ho49)); have n0_ := Aside0.mk (Kd.N_lower ho49 (below_size (by repeat (first | (with_reducible first | exact HB.out | apply below_alloc | apply pw_below_drewN | apply below_drew1) | exact HB.out)))); have n1_ := Aside0.mk (below_step (by repeat (first | (with_reducible first | exact HB.out | apply below_alloc | apply pw_below_drewN | apply below_drew1) | exact HB.out)) hb); clear HB; clear HO103; clear HO106; clear HO109; clear HO112; clear HO115; clear HO118; clear HO121; have HO124 := n0_; have HB := n1_; clear n0_ n1_; clear hb ho49; obtain ⟨Ao50, co50, eo50⟩ := Kd.N_slice HO124.out; subst eo50) | ((with_reducible refine gate_callee (f := 46) rfl ?_); refine goesL_ (some 20) rfl rfl Tryd.func46 (by kernel_rfl) rfl #[.slice Ao50 y122.length co50] rfl (by (try simp only [List.map_toArray, List.map_cons, List.map_nil]); first | done | rfl | (simp only [List.length_drop, List.length_take]; rfl)) ?_; (with_reducible refine (tree_Leaves.calls k _ _ y122 t125 _ ?side3 ?side1 ?side2 A1.out).mono ?_); (case side1 => repeat (first | exact (Kd.N_reads' HO124.out).2.2 | (with_reducible refine Kd.C_alloc ?_ _) | (with_reducible refine Kd.C_drewN ?_ _) | (with_reducible refine Kd.C_drew ?_))); (case side2 => exact (Kd.N_reads' HO124.out).2.1); (case side3 => exact gw_step hG_ (by repeat (first | (with_reducible first | exact HB.out | apply below_alloc | apply pw_below_drewN | apply below_drew1) | exact HB.out))); rintro e w51 ⟨v126, rfl, ho0, hb⟩; refine ⟨_, rfl, ?_⟩; have n0_ := Aside0.mk (Kd.N_elder' (by (with_reducible repeat (first | apply Kd.N_alloc | apply Kd.N_drewN | apply Kd.N_drew)); exact HO124.out) (Kd.R_base ho0) hb); have n1_ := Aside0.mk (Kd.R_lower ho0 (below_size (by repeat (first | (with_reducible first | exact HB.out | apply below_alloc | apply pw_below_drewN | apply below_drew1) | exact HB.out)))); have n2_ := Aside0.mk (below_step (by repeat (first | (with_reducible first | exact HB.out | apply below_alloc | apply pw_below_drewN | apply below_drew1) | exact HB.out)) hb); clear HO124; clear HB; have HO124 := n0_; have HO127 := n1_; have HB := n2_; clear n0_ n1_ n2_; (try clear hb); (try clear hb2); (try clear hk); (try clear hi); (try clear ho0); obtain ⟨Ao52, co52, eo52⟩ := Kd.R_slice HO127.out; subst eo52) | ((with_reducible refine gate_callee (f := 16) rfl ?_); refine goesL_ (some 26) rfl rfl Tryd.func16 (by kernel_rfl) rfl #[.slice Ao52 t125.length co52, .int .i64 3] rfl (by (try simp only [List.map_toArray, List.map_cons, List.map_nil]); first | done | rfl | (simp only [List.length_drop, List.length_take]; rfl)) ?_; (with_reducible refine (cons_Prove.calls k _ _ t125 3 t128 t129 _ ?side3 ?side1 ?side2 A3.out).mono ?_); (case side1 => repeat (first | exact (Kd.R_reads' HO127.out).2.2 | (with_reducible refine Kd.C_alloc ?_ _) | (with_reducible refine Kd.C_drewN ?_ _) | (with_reducible refine Kd.C_drew ?_))); (case side2 => exact (Kd.R_reads' HO127.out).2.1); (case side3 => exact gw_step hG_ (by repeat (first | (with_reducible first | exact HB.out | apply below_alloc | apply pw_below_drewN | apply below_drew1) | exact HB.out))); rintro e w53 ⟨v130, rfl, ho0, hb⟩; refine ⟨_, rfl, ?_⟩; have n0_ := Aside0.mk (Kd.N_elder' (by (with_reducible repeat (first | apply Kd.N_alloc | apply Kd.N_drewN | apply Kd.N_drew)); exact HO124.out) (Kd.R_base ho0) hb); have n1_ := Aside0.mk (Kd.R_elder' (by (with_reducible repeat (first | apply Kd.R_alloc | apply Kd.R_drewN | apply Kd.R_drew)); exact HO127.out) (Kd.R_base ho0) hb); have n2_ := Aside0.mk (Kd.R_lower (Kd.R_new' ho0 (Kd.R_lt (by (with_reducible repeat (first | apply Kd.R_alloc | apply Kd.R_drewN | apply Kd.R_drew)); exact HO127.out))) (below_size (by repeat (first | (with_reducible first | exact HB.out | apply below_alloc | apply pw_below_drewN | apply below_drew1) | exact HB.out)))); have n3_ := Aside0.mk (below_step (by repeat (first | (with_reducible first | exact HB.out | apply below_alloc | apply pw_below_drewN | apply below_drew1) | exact HB.out)) hb); clear HO124; clear HO127; clear HB; have HO124 := n0_; have HO127 := n1_; have HO131 := n2_; have HB := n3_; clear n0_ n1_ n2_ n3_; (try clear hb); (try clear hb2); (try clear hk); (try clear hi); (try clear ho0)) | ((with_reducible refine gate_callee (f := 16) rfl ?_); refine goesL_ (some 31) rfl rfl Tryd.func16 (by kernel_rfl) rfl #[.slice Ao52 t125.length co52, .int .i64 4] rfl (by (try simp only [List.map_toArray, List.map_cons, List.map_nil]); first | done | rfl | (simp only [List.length_drop, List.length_take]; rfl)) ?_; (with_reducible refine (cons_Prove.calls k _ _ t125 4 t132 t133 _ ?side3 ?side1 ?side2 A4.out).mono ?_); (case side1 => repeat (first | exact (Kd.R_reads' HO127.out).2.2 | (with_reducible refine Kd.C_alloc ?_ _) | (with_reducible refine Kd.C_drewN ?_ _) | (with_reducible refine Kd.C_drew ?_))); (case side2 => exact (Kd.R_reads' HO127.out).2.1); (case side3 => exact gw_step hG_ (by repeat (first | (with_reducible first | exact HB.out | apply below_alloc | apply pw_below_drewN | apply below_drew1) | exact HB.out))); rintro e w54 ⟨v134, rfl, ho0, hb⟩; refine ⟨_, rfl, ?_⟩; have n0_ := Aside0.mk (Kd.N_elder' (by (with_reducible repeat (first | apply Kd.N_alloc | apply Kd.N_drewN | apply Kd.N_drew)); exact HO124.out) (Kd.R_base ho0) hb); have n1_ := Aside0.mk (Kd.R_elder' (by (with_reducible repeat (first | apply Kd.R_alloc | apply Kd.R_drewN | apply Kd.R_drew)); exact HO127.out) (Kd.R_base ho0) hb); have n2_ := Aside0.mk (Kd.R_elder' (by (with_reducible repeat (first | apply Kd.R_alloc | apply Kd.R_drewN | apply Kd.R_drew)); exact HO131.out) (Kd.R_base ho0) hb); have n3_ := Aside0.mk (Kd.R_lower (Kd.R_new' (Kd.R_new' ho0 (Kd.R_lt (by (with_reducible repeat (first | apply Kd.R_alloc | apply Kd.R_drewN | apply Kd.R_drew)); exact HO127.out))) (Kd.R_lt (by (with_reducible repeat (first | apply Kd.R_alloc | apply Kd.R_drewN | apply Kd.R_drew)); exact HO131.out))) (below_size (by repeat (first | (with_reducible first | exact HB.out | apply below_alloc | apply pw_below_drewN | apply below_drew1) | exact HB.out)))); have n4_ := Aside0.mk (below_step (by repeat (first | (with_reducible first | exact HB.out | apply below_alloc | apply pw_below_drewN | apply below_drew1) | exact HB.out)) hb); clear HO124; clear HO127; clear HO131; clear HB; have HO124 := n0_; have HO127 := n1_; have HO131 := n2_; have HO135 := n3_; have HB := n4_; clear n0_ n1_ n2_ n3_ n4_; (try clear hb); (try clear hb2); (try clear hk); (try clear hi); (try clear ho0); have q55 : (4 : Int) ≤ ((t125.length : Int) : Int) := of_decide_eq_true (by first | (with_reducible assumption) | assumption); obtain ⟨i055, hi055, _, hsz55, _⟩ := info_parts info9; have hroom55 : t125.length ≤ co52 := (Kd.R_reads' HO127.out).2.1; have hC55 : Kd.F Kd.string _ _ Ao52 t125.length t125 := (Kd.V_at (base := w.heap.size) (Kd.R_V (Kd.R_apart' (HO127.out) (Kd.N_typed HO124.out) (by decide)))).2.2; have hcut55 := cut_to (P := Tryd.prog) 22 9 .i64 Tryd.underlying22 hi055 Ao52 t125.length co52 4 (by omega) q55 hroom55; have hr55 := Kd.F_take (m := 4) hC55 (by omega); have hy55 : y136.length = (4 : Int).toNat := (by rw [Ny136.out, List.length_take]; omega); rw [← Ny136.out] at hr55; rw [← hy55] at hcut55; have HO140 := Aside0.mk (show Kd.V Kd.string 9 _ w.heap.size _ (.slice Ao52 y136.length co52) y136 from Kd.V_mk (by omega) hr55); have HC140 := Aside0.mk (show y136.length ≤ co52 from by omega); clear hr55 hC55 hroom55 hi055 hsz55; have KY55 := Aside0.mk hy55; clear hy55; replace q55 := eq_true q55) | ((with_reducible refine gate_callee (f := 24) rfl ?_); refine goesL_ (some 37) rfl rfl Tryd.func24 (by kernel_rfl) rfl #[.slice Ao52 y136.length co52] rfl (by (try simp only [List.map_toArray, List.map_cons, List.map_nil]); first | done | rfl | (simp only [List.length_drop, List.length_take]; rfl)) ?_; (with_reducible refine (tree_Root.calls k _ _ y136 t141 t142 _ ?side3 ?side1 ?side2 A6.out).mono ?_); (case side1 => repeat (first | exact (Kd.V_reads' HO140.out).2.2 | (with_reducible refine Kd.C_alloc ?_ _) | (with_reducible refine Kd.C_drewN ?_ _) | (with_reducible refine Kd.C_drew ?_))); (case side2 => exact (Kd.V_reads' HO140.out).2.1); (case side3 => exact gw_step hG_ (by repeat (first | (with_reducible first | exact HB.out | apply below_alloc | apply pw_below_drewN | apply below_drew1) | exact HB.out))); rintro e w56 ⟨rfl, hb⟩; refine ⟨_, rfl, ?_⟩; have n0_ := Aside0.mk (Kd.N_below (by (with_reducible repeat (first | apply Kd.N_alloc | apply Kd.N_drewN | apply Kd.N_drew)); exact HO124.out) hb); have n1_ := Aside0.mk (Kd.R_below (by (with_reducible repeat (first | apply Kd.R_alloc | apply Kd.R_drewN | apply Kd.R_drew)); exact HO127.out) hb); have n2_ := Aside0.mk (Kd.R_below (by (with_reducible repeat (first | apply Kd.R_alloc | apply Kd.R_drewN | apply Kd.R_drew)); exact HO131.out) hb); have n3_ := Aside0.mk (Kd.R_below (by (with_reducible repeat (first | apply Kd.R_alloc | apply Kd.R_drewN | apply Kd.R_drew)); exact HO135.out) hb); have n4_ := Aside0.mk (Kd.V_below (by (with_reducible repeat (first | apply Kd.V_alloc | apply Kd.V_drewN | apply Kd.V_drew)); exact HO140.out) hb); have n5_ := Aside0.mk (below_step (by repeat (first | (with_reducible first | exact HB.out | apply below_alloc | apply pw_below_drewN | apply below_drew1) | exact HB.out)) hb); clear HO124; clear HO127; clear HO131; clear HO135; clear HO140; clear HB; have HO124 := n0_; have HO127 := n1_; have HO131 := n2_; have HO135 := n3_; have HO140 := n4_; have HB := n5_; clear n0_ n1_ n2_ n3_ n4_ n5_; (try clear hb); (try clear hb2); (try clear hk); (try clear hi)) | ((with_reducible refine gate_callee (f := 24) rfl ?_); refine goesL_ (some 42) rfl rfl Tryd.func24 (by kernel_rfl) rfl #[.slice Ao52 t125.length co52] rfl (by (try simp only [List.map_toArray, List.map_cons, List.map_nil]); first | done | rfl | (simp only [List.length_drop, List.length_take]; rfl)) ?_; (with_reducible refine (tree_Root.calls k _ _ t125 t143 t144 _ ?side3 ?side1 ?side2 A7.out).mono ?_); (case side1 => repeat (first | exact (Kd.R_reads' HO127.out).2.2 | (with_reducible refine Kd.C_alloc ?_ _) | (with_reducible refine Kd.C_drewN ?_ _) | (with_reducible refine Kd.C_drew ?_))); (case side2 => exact (Kd.R_reads' HO127.out).2.1); (case side3 => exact gw_step hG_ (by repeat (first | (with_reducible first | exact HB.out | apply below_alloc | apply pw_below_drewN | apply below_drew1) | exact HB.out))); rintro e w57 ⟨rfl, hb⟩; refine ⟨_, rfl, ?_⟩; have n0_ := Aside0.mk (Kd.N_below (by (with_reducible repeat (first | apply Kd.N_alloc | apply Kd.N_drewN | apply Kd.N_drew)); exact HO124.out) hb); have n1_ := Aside0.mk (Kd.R_below (by (with_reducible repeat (first | apply Kd.R_alloc | apply Kd.R_drewN | apply Kd.R_drew)); exact HO127.out) hb); have n2_ := Aside0.mk (Kd.R_below (by (with_reducible repeat (first | apply Kd.R_alloc | apply Kd.R_drewN | apply Kd.R_drew)); exact HO131.out) hb); have n3_ := Aside0.mk (Kd.R_below (by (with_reducible repeat (first | apply Kd.R_alloc | apply Kd.R_drewN | apply Kd.R_drew)); exact HO135.out) hb); have n4_ := Aside0.mk (Kd.V_below (by (with_reducible repeat (first | apply Kd.V_alloc | apply Kd.V_drewN | apply Kd.V_drew)); exact HO140.out) hb); have n5_ := Aside0.mk (below_step (by repeat (first | (with_reducible first | exact HB.out | apply below_alloc | apply pw_below_drewN | apply below_drew1) | exact HB.out)) hb); clear HO124; clear HO127; clear HO131; clear HO135; clear HO140; clear HB; have HO124 := n0_; have HO127 := n1_; have HO131 := n2_; have HO135 := n3_; have HO140 := n4_; have HB := n5_; clear n0_ n1_ n2_ n3_ n4_ n5_; (try clear hb); (try clear hb2); (try clear hk); (try clear hi); have q58 : (4 : Int) ≤ ((t125.length : Int) : Int) := of_decide_eq_true (by first | (with_reducible assumption) | assumption); obtain ⟨i058, hi058, _, hsz58, _⟩ := info_parts info9; have hroom58 : t125.length ≤ co52 := (Kd.R_reads' HO127.out).2.1; have hC58 : Kd.F Kd.string _ _ Ao52 t125.length t125 := (Kd.V_at (base := w.heap.size) (Kd.R_V (Kd.R_apart' (HO127.out) (Kd.N_typed HO124.out) (by decide)))).2.2; have hcut58 := cut_from (P := Tryd.prog) 22 9 .i64 Tryd.underlying22 hi058 1 hsz58 Ao52 t125.length co52 4 (by omega) q58; have hr58 := Kd.F_cut (m := (4 : Int).toNat) (c := co52) hC58 (by omega) hroom58; obtain ⟨A58, hA58⟩ : ∃ A1, A1 = (if co52 = (4 : Int).toNat then Ao52 else (Ao52 : Option Addr).map (·.add ((4 : Int).toNat * 1))) := ⟨_, rfl⟩; obtain ⟨c58, hc58⟩ : ∃ c1, c1 = co52 - (4 : Int).toNat := ⟨_, rfl⟩; have hy58 : y145.length = t125.length - (4 : Int).toNat := (by rw [Ny145.out, List.length_drop] <;> omega); rw [show (t125).drop (4 : Int).toNat = y145 from Ny145.out.symm] at hr58; replace hr58 : Kd.F Kd.string _ _ A58 y145.length y145 := (by rw [hA58]; exact hr58); rw [← hy58, ← hA58, ← hc58] at hcut58; have HO149 := Aside0.mk (show Kd.V Kd.string 9 _ w.heap.size _ (.slice A58 y145.length c58) y145 from Kd.V_mk (by rw [hy58, hc58]; exact Nat.sub_le_sub_right hroom58 _) hr58); have HC149 := Aside0.mk (show y145.length ≤ c58 from by rw [hy58, hc58]; exact Nat.sub_le_sub_right hroom58 _); clear hr58 hC58 hroom58 hi058 hsz58 hc58; have KY58 := Aside0.mk hy58; have KA58 := Aside0.mk hA58; clear hy58 hA58; replace q58 := eq_true q58) | ((with_reducible refine gate_callee (f := 24) rfl ?_); refine goesL_ (some 48) rfl rfl Tryd.func24 (by kernel_rfl) rfl #[.slice A58 y145.length c58] rfl (by (try simp only [List.map_toArray, List.map_cons, List.map_nil]); first | done | rfl | (simp only [List.length_drop, List.length_take]; rfl)) ?_; (with_reducible refine (tree_Root.calls k _ _ y145 t150 t151 _ ?side3 ?side1 ?side2 A9.out).mono ?_); (case side1 => repeat (first | exact (Kd.V_reads' HO149.out).2.2 | (with_reducible refine Kd.C_alloc ?_ _) | (with_reducible refine Kd.C_drewN ?_ _) | (with_reducible refine Kd.C_drew ?_))); (case side2 => exact (Kd.V_reads' HO149.out).2.1); (case side3 => exact gw_step hG_ (by repeat (first | (with_reducible first | exact HB.out | apply below_alloc | apply pw_below_drewN | apply below_drew1) | exact HB.out))); rintro e w59 ⟨rfl, hb⟩; refine ⟨_, rfl, ?_⟩; have n0_ := Aside0.mk (Kd.N_below (by (with_reducible repeat (first | apply Kd.N_alloc | apply Kd.N_drewN | apply Kd.N_drew)); exact HO124.out) hb); have n1_ := Aside0.mk (Kd.R_below (by (with_reducible repeat (first | apply Kd.R_alloc | apply Kd.R_drewN | apply Kd.R_drew)); exact HO127.out) hb); have n2_ := Aside0.mk (Kd.R_below (by (with_reducible repeat (first | apply Kd.R_alloc | apply Kd.R_drewN | apply Kd.R_drew)); exact HO131.out) hb); have n3_ := Aside0.mk (Kd.R_below (by (with_reducible repeat (first | apply Kd.R_alloc | apply Kd.R_drewN | apply Kd.R_drew)); exact HO135.out) hb); have n4_ := Aside0.mk (Kd.V_below (by (with_reducible repeat (first | apply Kd.V_alloc | apply Kd.V_drewN | apply Kd.V_drew)); exact HO140.out) hb); have n5_ := Aside0.mk (Kd.V_below (by (with_reducible repeat (first | apply Kd.V_alloc | apply Kd.V_drewN | apply Kd.V_drew)); exact HO149.out) hb); have n6_ := Aside0.mk (below_step (by repeat (first | (with_reducible first | exact HB.out | apply below_alloc | apply pw_below_drewN | apply below_drew1) | exact HB.out)) hb); clear HO124; clear HO127; clear HO131; clear HO135; clear HO140; clear HO149; clear HB; have HO124 := n0_; have HO127 := n1_; have HO131 := n2_; have HO135 := n3_; have HO140 := n4_; have HO149 := n5_; have HB := n6_; clear n0_ n1_ n2_ n3_ n4_ n5_ n6_; (try clear hb); (try clear hb2); (try clear hk); (try clear hi)))
                  have n0_ := Aside0.mk (Kd.N_drew HO124.out)
                  have n1_ := Aside0.mk (Kd.R_drew HO127.out)
                  have n2_ := Aside0.mk (Kd.R_drew HO131.out)
                  have n3_ := Aside0.mk (Kd.R_drew HO135.out)
                  have n4_ := Aside0.mk (Kd.V_drew HO140.out)
                  have n5_ := Aside0.mk (Kd.V_drew HO149.out)
                  have n6_ := Aside0.mk (below_drew1 HB.out)
                  clear HO124
                  clear HO127
                  clear HO131
                  clear HO135
                  clear HO140
                  clear HO149
                  clear HB
                  have HO124 := n0_
                  have HO127 := n1_
                  have HO131 := n2_
                  have HO135 := n3_
                  have HO140 := n4_
                  have HO149 := n5_
                  have HB := n6_
                  clear n0_ n1_ n2_ n3_ n4_ n5_ n6_
                  obtain ⟨Ao61, co61, eo61⟩ := Kd.R_slice HO131.out
                  (first | subst eo61 | (injection eo61 with f1_ f2_ f3_; have f4_ := f1_.symm; have f5_ := f3_.symm; clear f1_ f2_ f3_; subst f4_; subst f5_))
                  have p152 : 0 ≤ (0 : Int) := (by omega)
                  have q152 : 0 < (t128.length : Int) := of_decide_eq_true (by first | (with_reducible assumption) | assumption)
                  obtain ⟨ad152, e152, hx152_0⟩ := Kd.at_string (Kd.R_reads' HO131.out).2.2 0 p152 q152
                  cases e152
                  have qi152 : (0 < t128.length) = True := eq_true (by omega)
                  (try rw [show ((0 : Int)).toNat = 0 from rfl] at hx152_0)
                  (try rw [Addr.add_zero'] at hx152_0)
                  replace p152 := eq_true p152
                  replace q152 := eq_true q152
                  have p153 : 0 ≤ (2 : Int) := (by omega)
                  have q153 : 2 < (t125.length : Int) := of_decide_eq_true (by first | (with_reducible assumption) | assumption)
                  obtain ⟨ad153, e153, hx153_0⟩ := Kd.at_string (Kd.R_reads' HO127.out).2.2 2 p153 q153
                  cases e153
                  (try simp only [show (2 : Int).toNat = 2 from rfl, Nat.reduceMul, Nat.reduceEqDiff, Go.Addr.add, ↓reduceIte] at hx153_0)
                  have qi153 : (2 < t125.length) = True := eq_true (by omega)
                  (try rw [show ((2 : Int)).toNat = 2 from rfl] at hx153_0)
                  replace p153 := eq_true p153
                  replace q153 := eq_true q153
                  have p154 : 0 ≤ (1 : Int) := (by omega)
                  have q154 : 1 < (t128.length : Int) := of_decide_eq_true (by first | (with_reducible assumption) | assumption)
                  obtain ⟨ad154, e154, hx154_0⟩ := Kd.at_string (Kd.R_reads' HO131.out).2.2 1 p154 q154
                  obtain rfl : ad152 = ad154 := (by injection e154)
                  (try simp only [show (1 : Int).toNat = 1 from rfl, Nat.reduceMul, Nat.reduceEqDiff, Go.Addr.add, ↓reduceIte] at hx154_0)
                  have qi154 : (1 < t128.length) = True := eq_true (by omega)
                  (try rw [show ((1 : Int)).toNat = 1 from rfl] at hx154_0)
                  replace p154 := eq_true p154
                  replace q154 := eq_true q154
                  have p155 : 0 ≤ (3 : Int) := (by omega)
                  have q155 : 3 < (t125.length : Int) := of_decide_eq_true (by first | (with_reducible assumption) | assumption)
                  obtain ⟨ad155, e155, hx155_0⟩ := Kd.at_string (Kd.R_reads' HO127.out).2.2 3 p155 q155
                  obtain rfl : ad153 = ad155 := (by injection e155)
                  (try simp only [show (3 : Int).toNat = 3 from rfl, Nat.reduceMul, Nat.reduceEqDiff, Go.Addr.add, ↓reduceIte] at hx155_0)
                  have qi155 : (3 < t125.length) = True := eq_true (by omega)
                  (try rw [show ((3 : Int)).toNat = 3 from rfl] at hx155_0)
                  replace p155 := eq_true p155
                  replace q155 := eq_true q155
                  have p156 : 0 ≤ (3 : Int) := (by omega)
                  have q156 : 3 < (t128.length : Int) := of_decide_eq_true (by first | (with_reducible assumption) | assumption)
                  obtain ⟨ad156, e156, hx156_0⟩ := Kd.at_string (Kd.R_reads' HO131.out).2.2 3 p156 q156
                  obtain rfl : ad152 = ad156 := (by injection e156)
                  (try simp only [show (3 : Int).toNat = 3 from rfl, Nat.reduceMul, Nat.reduceEqDiff, Go.Addr.add, ↓reduceIte] at hx156_0)
                  have qi156 : (3 < t128.length) = True := eq_true (by omega)
                  (try rw [show ((3 : Int)).toNat = 3 from rfl] at hx156_0)
                  replace p156 := eq_true p156
                  replace q156 := eq_true q156
                  obtain ⟨Ao62, co62, eo62⟩ := Kd.R_slice HO135.out
                  (first | subst eo62 | (injection eo62 with f1_ f2_ f3_; have f4_ := f1_.symm; have f5_ := f3_.symm; clear f1_ f2_ f3_; subst f4_; subst f5_))
                  have p157 : 0 ≤ (0 : Int) := (by omega)
                  have q157 : 0 < (t132.length : Int) := of_decide_eq_true (by first | (with_reducible assumption) | assumption)
                  obtain ⟨ad157, e157, hx157_0⟩ := Kd.at_string (Kd.R_reads' HO135.out).2.2 0 p157 q157
                  cases e157
                  have qi157 : (0 < t132.length) = True := eq_true (by omega)
                  (try rw [show ((0 : Int)).toNat = 0 from rfl] at hx157_0)
                  (try rw [Addr.add_zero'] at hx157_0)
                  replace p157 := eq_true p157
                  replace q157 := eq_true q157
                  refine start_ (n := 63) (S := fun w' => w'.cell? ad152 = some (.string (rdOf ByteArray.empty t128 0)) ∧ w'.cell? ⟨ad153.block, ad153.off + 2, none⟩ = some (.string (rdOf ByteArray.empty t125 2)) ∧ w'.cell? ⟨ad152.block, ad152.off + 1, none⟩ = some (.string (rdOf ByteArray.empty t128 1)) ∧ w'.cell? ⟨ad153.block, ad153.off + 3, none⟩ = some (.string (rdOf ByteArray.empty t125 3)) ∧ w'.cell? ⟨ad152.block, ad152.off + 3, none⟩ = some (.string (rdOf ByteArray.empty t128 3)) ∧ w'.cell? ad157 = some (.string (rdOf ByteArray.empty t132 0))) (ds := []) #[false, false, false, false, false, false, false, false, false, false, false, false, false, false, false, false, false, false, false, false, false, false, false, false, false, false, false, false, false, false, false, false, false, false, false, false, false, false, false, false, false, false, false, false, false, false, false, false, false, false, false, false, false, false, false, false, false, false, false, false, false, false, false] (by kernel_rfl) rfl rfl ⟨hx152_0, hx153_0, hx154_0, hx155_0, hx156_0, hx157_0⟩ (fun hHeld => ?_); refine with_tabW rubricklaw07_knows.tab9 rubricklaw07_knows.bits9 (fun HT_ HW_ => ?_)
                  generalize w59.drew = w60 at HO124 HO127 HO131 HO135 HO140 HO149 HB hx152_0 hx153_0 hx154_0 hx155_0 hx156_0 hx157_0 hHeld ⊢
                  refine HBulk.bulkT (fuel := 11) HT_.out HW_.out [(0, some 51, false), (1, some 52, false), (2, some 53, false), (3, some 54, false), (4, some 55, false), (5, some 56, false), (7, some 58, false), (8, some 59, false), (6, some 57, true), (9, some 60, true), (10, some 61, false), (11, some 62, false), (12, some 63, false), (13, some 64, false), (14, some 65, false), (16, some 67, false), (17, some 68, false), (15, some 66, true), (18, some 69, true), (19, some 70, false), (20, some 71, false), (21, some 72, false), (22, some 73, false), (23, some 74, false), (25, some 76, false), (24, some 75, true), (26, some 77, false), (27, some 78, false), (28, some 79, false), (29, some 80, false), (30, some 81, false), (31, some 82, false), (32, some 83, false), (33, some 84, false), (34, some 85, false), (35, some 86, false), (36, some 87, false), (37, some 88, false), (38, some 89, false), (39, some 90, false), (41, some 92, false), (40, some 91, true), (42, some 93, false), (43, some 94, false), (44, some 95, false), (45, some 96, false), (46, some 97, false), (47, some 98, false), (48, some 99, false), (49, some 100, false), (50, some 101, false), (51, some 102, false)] #[true, true, true, true, true, true, true, true, true, true, true, true, true, true, true, true, true, true, true, true, true, true, true, true, true, true, true, true, true, true, true, true, true, true, true, true, true, true, true, true, true, true, true, true, true, true, true, true, true, true, true, true, false, false, false, false, false, false, false, false, false, false, false] (a' := ?_) (by kernel_rfl) rfl hHeld ?_ ?_
                  rotate_left
                  ·repeat
                    refine HBulk.RunsM.cons (v := ?_) (a1 := ?_) rfl rfl (fun _ _ _ h => h) (by rfl) ?_ ?_ ?_
                    rotate_left
                    ·intro w' hS_; (try (obtain ⟨s0, s1, s2, s3, s4, s5⟩ := hS_ rfl))
                     go_simp
                     with_reducible rfl
                    rotate_left
                    ·simp only [Act.put, List.setIfInBounds_toArray, List.set_cons_zero, List.set_cons_succ, i64_w, i32_w]
                     rfl
                   exact HBulk.RunsM.nil
                  refine one_ (i := 52) (N := some 103) #[true, true, true, true, true, true, true, true, true, true, true, true, true, true, true, true, true, true, true, true, true, true, true, true, true, true, true, true, true, true, true, true, true, true, true, true, true, true, true, true, true, true, true, true, true, true, true, true, true, true, true, true, true, false, false, false, false, false, false, false, false, false, false] rfl rfl (one_of HT_.out (by kernel_rfl)) (by decide) (fun K hK => ?_)
                  refine goes_ Tryd.func20 (by kernel_rfl) rfl #[.int .i64 4, .int .i64 7, .string t141, .string t143, .slice (some ad157) t132.length co62] (by rfl) rfl rfl (by (try simp only [List.map_toArray, List.map_cons, List.map_nil]); first | done | rfl | (simp only [List.length_drop, List.length_take]; rfl)) ?_
                  with_reducible refine (cons_Check.calls k 4 7 t141 t143 _ _ t132 t158 _ ?side3 ?side1 ?side2 A24.out).mono ?_
                  (case side1 => repeat (first | exact (Kd.R_reads' HO135.out).2.2 | (with_reducible refine Kd.C_alloc ?_ _) | (with_reducible refine Kd.C_drewN ?_ _) | (with_reducible refine Kd.C_drew ?_)))
                  (case side2 => exact (Kd.R_reads' HO135.out).2.1)
                  (case side3 => exact gw_step hG_ (by repeat (first | (with_reducible first | exact HB.out | apply below_alloc | apply pw_below_drewN | apply below_drew1) | exact HB.out)))
                  rintro e w63 ⟨rfl, hb⟩
                  have HS0_ := (hb.cell (World.block_lt_of_cell? _ _ (hHeld.1))).trans (hHeld.1)
                  have HS1_ := (hb.cell (World.block_lt_of_cell? _ _ (hHeld.2.1))).trans (hHeld.2.1)
                  have HS2_ := (hb.cell (World.block_lt_of_cell? _ _ (hHeld.2.2.1))).trans (hHeld.2.2.1)
                  have HS3_ := (hb.cell (World.block_lt_of_cell? _ _ (hHeld.2.2.2.1))).trans (hHeld.2.2.2.1)
                  have HS4_ := (hb.cell (World.block_lt_of_cell? _ _ (hHeld.2.2.2.2.1))).trans (hHeld.2.2.2.2.1)
                  have HS5_ := (hb.cell (World.block_lt_of_cell? _ _ (hHeld.2.2.2.2.2))).trans (hHeld.2.2.2.2.2)
                  refine ⟨_, rfl, ?_⟩
                  have n0_ := Aside0.mk (Kd.N_below (by (with_reducible repeat (first | apply Kd.N_alloc | apply Kd.N_drewN | apply Kd.N_drew)); exact HO124.out) hb)
                  have n1_ := Aside0.mk (Kd.R_below (by (with_reducible repeat (first | apply Kd.R_alloc | apply Kd.R_drewN | apply Kd.R_drew)); exact HO127.out) hb)
                  have n2_ := Aside0.mk (Kd.R_below (by (with_reducible repeat (first | apply Kd.R_alloc | apply Kd.R_drewN | apply Kd.R_drew)); exact HO131.out) hb)
                  have n3_ := Aside0.mk (Kd.R_below (by (with_reducible repeat (first | apply Kd.R_alloc | apply Kd.R_drewN | apply Kd.R_drew)); exact HO135.out) hb)
                  have n4_ := Aside0.mk (Kd.V_below (by (with_reducible repeat (first | apply Kd.V_alloc | apply Kd.V_drewN | apply Kd.V_drew)); exact HO140.out) hb)
                  have n5_ := Aside0.mk (Kd.V_below (by (with_reducible repeat (first | apply Kd.V_alloc | apply Kd.V_drewN | apply Kd.V_drew)); exact HO149.out) hb)
                  have n6_ := Aside0.mk (below_step (by repeat (first | (with_reducible first | exact HB.out | apply below_alloc | apply pw_below_drewN | apply below_drew1) | exact HB.out)) hb)
                  clear HO124
                  clear HO127
                  clear HO131
                  clear HO135
                  clear HO140
                  clear HO149
                  clear HB
                  have HO124 := n0_
                  have HO127 := n1_
                  have HO131 := n2_
                  have HO135 := n3_
                  have HO140 := n4_
                  have HO149 := n5_
                  have HB := n6_
                  clear n0_ n1_ n2_ n3_ n4_ n5_ n6_
                  (try clear hb)
                  (try clear hb2)
                  (try clear hk)
                  (try clear hi)
                  refine hK.out _ _ ⟨HS0_, HS1_, HS2_, HS3_, HS4_, HS5_⟩ (fun hHeld => ?_)
                  clear hK K
                  refine norm_ (a' := ?_) ?_ ?_
                  rotate_left
                  ·show Act.put _ (some 103) _ = _
                   simp only [Act.put, List.setIfInBounds_toArray, List.set_cons_zero, List.set_cons_succ, i64_w, i32_w]
                   rfl
                  refine HBulk.bulkT (fuel := 4) HT_.out HW_.out [(53, some 104, false), (54, some 105, false), (55, some 106, false), (56, some 107, false), (57, some 108, false), (58, some 109, false)] #[true, true, true, true, true, true, true, true, true, true, true, true, true, true, true, true, true, true, true, true, true, true, true, true, true, true, true, true, true, true, true, true, true, true, true, true, true, true, true, true, true, true, true, true, true, true, true, true, true, true, true, true, true, true, true, true, true, true, true, false, false, false, false] (a' := ?_) (by kernel_rfl) rfl hHeld ?_ ?_
                  rotate_left
                  ·repeat
                    refine HBulk.RunsM.cons (v := ?_) (a1 := ?_) rfl rfl (fun _ _ _ h => h) (by rfl) ?_ ?_ ?_
                    rotate_left
                    ·intro w' hS_
                     go_simp
                     with_reducible rfl
                    rotate_left
                    ·simp only [Act.put, List.setIfInBounds_toArray, List.set_cons_zero, List.set_cons_succ, i64_w, i32_w]
                     rfl
                   exact HBulk.RunsM.nil
                  refine one_ (i := 59) (N := some 110) #[true, true, true, true, true, true, true, true, true, true, true, true, true, true, true, true, true, true, true, true, true, true, true, true, true, true, true, true, true, true, true, true, true, true, true, true, true, true, true, true, true, true, true, true, true, true, true, true, true, true, true, true, true, true, true, true, true, true, true, true, false, false, false] rfl rfl (one_of HT_.out (by kernel_rfl)) (by decide) (fun K hK => ?_)
                  refine goes_ Tryd.func20 (by kernel_rfl) rfl #[.int .i64 4, .int .i64 7, .string t143, .string t141, .slice (some ad157) t132.length co62] (by rfl) rfl rfl (by (try simp only [List.map_toArray, List.map_cons, List.map_nil]); first | done | rfl | (simp only [List.length_drop, List.length_take]; rfl)) ?_
                  with_reducible refine (cons_Check.calls k 4 7 t143 t141 _ _ t132 t159 _ ?side3 ?side1 ?side2 A26.out).mono ?_
                  (case side1 => repeat (first | exact (Kd.R_reads' HO135.out).2.2 | (with_reducible refine Kd.C_alloc ?_ _) | (with_reducible refine Kd.C_drewN ?_ _) | (with_reducible refine Kd.C_drew ?_)))
                  (case side2 => exact (Kd.R_reads' HO135.out).2.1)
                  (case side3 => exact gw_step hG_ (by repeat (first | (with_reducible first | exact HB.out | apply below_alloc | apply pw_below_drewN | apply below_drew1) | exact HB.out)))
                  rintro e w64 ⟨rfl, hb⟩
                  have HS0_ := (hb.cell (World.block_lt_of_cell? _ _ (hHeld.1))).trans (hHeld.1)
                  have HS1_ := (hb.cell (World.block_lt_of_cell? _ _ (hHeld.2.1))).trans (hHeld.2.1)
                  have HS2_ := (hb.cell (World.block_lt_of_cell? _ _ (hHeld.2.2.1))).trans (hHeld.2.2.1)
                  have HS3_ := (hb.cell (World.block_lt_of_cell? _ _ (hHeld.2.2.2.1))).trans (hHeld.2.2.2.1)
                  have HS4_ := (hb.cell (World.block_lt_of_cell? _ _ (hHeld.2.2.2.2.1))).trans (hHeld.2.2.2.2.1)
                  have HS5_ := (hb.cell (World.block_lt_of_cell? _ _ (hHeld.2.2.2.2.2))).trans (hHeld.2.2.2.2.2)
                  refine ⟨_, rfl, ?_⟩
                  have n0_ := Aside0.mk (Kd.N_below (by (with_reducible repeat (first | apply Kd.N_alloc | apply Kd.N_drewN | apply Kd.N_drew)); exact HO124.out) hb)
                  have n1_ := Aside0.mk (Kd.R_below (by (with_reducible repeat (first | apply Kd.R_alloc | apply Kd.R_drewN | apply Kd.R_drew)); exact HO127.out) hb)
                  have n2_ := Aside0.mk (Kd.R_below (by (with_reducible repeat (first | apply Kd.R_alloc | apply Kd.R_drewN | apply Kd.R_drew)); exact HO131.out) hb)
                  have n3_ := Aside0.mk (Kd.R_below (by (with_reducible repeat (first | apply Kd.R_alloc | apply Kd.R_drewN | apply Kd.R_drew)); exact HO135.out) hb)
                  have n4_ := Aside0.mk (Kd.V_below (by (with_reducible repeat (first | apply Kd.V_alloc | apply Kd.V_drewN | apply Kd.V_drew)); exact HO140.out) hb)
                  have n5_ := Aside0.mk (Kd.V_below (by (with_reducible repeat (first | apply Kd.V_alloc | apply Kd.V_drewN | apply Kd.V_drew)); exact HO149.out) hb)
                  have n6_ := Aside0.mk (below_step (by repeat (first | (with_reducible first | exact HB.out | apply below_alloc | apply pw_below_drewN | apply below_drew1) | exact HB.out)) hb)
                  clear HO124
                  clear HO127
                  clear HO131
                  clear HO135
                  clear HO140
                  clear HO149
                  clear HB
                  have HO124 := n0_
                  have HO127 := n1_
                  have HO131 := n2_
                  have HO135 := n3_
                  have HO140 := n4_
                  have HO149 := n5_
                  have HB := n6_
                  clear n0_ n1_ n2_ n3_ n4_ n5_ n6_
                  (try clear hb)
                  (try clear hb2)
                  (try clear hk)
                  (try clear hi)
                  refine hK.out _ _ ⟨HS0_, HS1_, HS2_, HS3_, HS4_, HS5_⟩ (fun hHeld => ?_)
                  clear hK K
                  refine norm_ (a' := ?_) ?_ ?_
                  rotate_left
                  ·show Act.put _ (some 110) _ = _
                   simp only [Act.put, List.setIfInBounds_toArray, List.set_cons_zero, List.set_cons_succ, i64_w, i32_w]
                   rfl
                  refine HBulk.bulkT (fuel := 0) HT_.out HW_.out [(60, some 111, false), (61, some 112, false), (62, some 0, false)] #[true, true, true, true, true, true, true, true, true, true, true, true, true, true, true, true, true, true, true, true, true, true, true, true, true, true, true, true, true, true, true, true, true, true, true, true, true, true, true, true, true, true, true, true, true, true, true, true, true, true, true, true, true, true, true, true, true, true, true, true, true, true, true] (a' := ?_) (by kernel_rfl) rfl hHeld ?_ ?_
                  rotate_left
                  ·repeat
                    refine HBulk.RunsM.cons (v := ?_) (a1 := ?_) rfl rfl (fun _ _ _ h => h) (by rfl) ?_ ?_ ?_
                    rotate_left
                    ·intro w' hS_
                     go_simp
                     with_reducible rfl
                    rotate_left
                    ·simp only [Act.put, List.setIfInBounds_toArray, List.set_cons_zero, List.set_cons_succ, i64_w, i32_w]
                     rfl
                   exact HBulk.RunsM.nil
                  refine done_ (done_of HT_.out (by kernel_rfl)) ?_
                  try go_wp2
                  go_ret
                  exact ⟨by first | rfl | (simp [errW_none, errW_some] <;> rfl) | exact congrArg (fun b_ : Bool => Ending.returned (Value.bool b_)) HT2_.out | (simp [*, errW_none, errW_some] <;> rfl), by repeat (first | (with_reducible first | exact HB.out | apply below_alloc | apply pw_below_drewN | apply below_drew1) | exact HB.out)⟩
                 ·rw [if_neg c25] at H
                  have c25b0 : (t158 == 0) = false := beq_eq_false_iff_ne.mpr c25
                  have c25b1 : (t158 != 0) = true := bne_iff_ne.mpr c25
                  cases H
                ·rw [if_neg c23] at H
                 have c23b0 : (t133 == 0) = false := beq_eq_false_iff_ne.mpr c23
                 have c23b1 : (t133 != 0) = true := bne_iff_ne.mpr c23
                 cases H
               ·rw [if_neg c22] at H
                have c22b0 : ((rdOf ByteArray.empty t132 0).toList == t150.toList) = false := beq_eq_false_iff_ne.mpr c22
                have c22b1 : ((rdOf ByteArray.empty t132 0).toList != t150.toList) = true := bne_iff_ne.mpr c22
                cases H
              ·rw [if_neg c21] at H
               exact absurd H (by simp)
             ·rw [if_neg c20] at H
              have c20b0 : ((t132.length : Int) == 1) = false := beq_eq_false_iff_ne.mpr c20
              have c20b1 : ((t132.length : Int) != 1) = true := bne_iff_ne.mpr c20
              cases H
            ·rw [if_neg c19] at H
             have c19b0 : (t129 == 0) = false := beq_eq_false_iff_ne.mpr c19
             have c19b1 : (t129 != 0) = true := bne_iff_ne.mpr c19
             cases H
           ·rw [if_neg c18] at H
            have c18b0 : ((rdOf ByteArray.empty t128 3).toList == t150.toList) = false := beq_eq_false_iff_ne.mpr c18
            have c18b1 : ((rdOf ByteArray.empty t128 3).toList != t150.toList) = true := bne_iff_ne.mpr c18
            cases H
          ·rw [if_neg c17] at H
           exact absurd H (by simp)
         ·rw [if_neg c16] at H
          have c16b0 : ((rdOf ByteArray.empty t128 1).toList == (rdOf ByteArray.empty t125 3).toList) = false := beq_eq_false_iff_ne.mpr c16
          have c16b1 : ((rdOf ByteArray.empty t128 1).toList != (rdOf ByteArray.empty t125 3).toList) = true := bne_iff_ne.mpr c16
          cases H
        ·rw [if_neg c15] at H
         exact absurd H (by simp)
       ·rw [if_neg c14] at H
        exact absurd H (by simp)
      ·rw [if_neg c13] at H
       have c13b0 : ((rdOf ByteArray.empty t128 0).toList == (rdOf ByteArray.empty t125 2).toList) = false := beq_eq_false_iff_ne.mpr c13
       have c13b1 : ((rdOf ByteArray.empty t128 0).toList != (rdOf ByteArray.empty t125 2).toList) = true := bne_iff_ne.mpr c13
       cases H
     ·rw [if_neg c12] at H
      exact absurd H (by simp)
    ·rw [if_neg c11] at H
     exact absurd H (by simp)
   ·rw [if_neg c10] at H
    have c10b0 : ((t128.length : Int) == 4) = false := beq_eq_false_iff_ne.mpr c10
    have c10b1 : ((t128.length : Int) != 4) = true := bne_iff_ne.mpr c10
    cases H
  ·rw [if_neg c5] at H
   exact absurd H (by simp)
 ·rw [if_neg c2] at H
  have c2b0 : ((t125.length : Int) == 7) = false := beq_eq_false_iff_ne.mpr c2
  have c2b1 : ((t125.length : Int) != 7) = true := bne_iff_ne.mpr c2
  cases H
end Go.Proofs.YtpmefpdafkbphaaDoor.PK
namespace Go.Proofs.YtpmefpdafkbphaaDoor.PK
open Go.RowKit Go.Proofs.YtpmefpdafkbphaaDoor Go.Proofs.YtpmefpdafkbphaaDoor.HSha Go.Proofs.YtpmefpdafkbphaaDoor.PS Go.Proofs.YtpmefpdafkbphaaDoor.PR Go.Proofs.YtpmefpdafkbphaaDoor.PT Go.Proofs.YtpmefpdafkbphaaDoor.PB Go.Proofs.YtpmefpdafkbphaaDoor.HNode Go.Proofs.YtpmefpdafkbphaaDoor.PC Go.Proofs.YtpmefpdafkbphaaDoor.PP Go.Proofs.YtpmefpdafkbphaaDoor.HProve Go.Proofs.YtpmefpdafkbphaaDoor.HCheck Go.Proofs.YtpmefpdafkbphaaDoorW.PrintWords Go.Proofs.YtpmefpdafkbphaaDoorW.PrintLast Go.Proofs.YtpmefpdafkbphaaDoorW.PrintMore
attribute [local go_sem] max2_int min2_int max_two min_two max_three min_three max_four min_four   -- for this text's walks alone
set_option linter.unusedVariables false
set_option linter.unusedSimpArgs false
/-! ### rubricklaw07_digests: function 23 -/
mutual
def rubricklaw07_digests.l0 : Nat → List (List Int) → List ByteArray → Int → Option (List ByteArray)
 | 0, _, _, _ => none
 | k + 1, x0, x3, x4 => if x4 < (x0.length : Int) then (rubricklaw07_digests.j1 k x0 x3 x4 (decide (x4 < 40))) else (rubricklaw07_digests.j1 k x0 x3 x4 false)
def rubricklaw07_digests.j1 : Nat → List (List Int) → List ByteArray → Int → Bool → Option (List ByteArray)
 | 0, _, _, _, _ => none
 | k + 1, x0, x3, x4, x12 => if x12 = true then (if 0 ≤ x4 then (if x4 < (x0.length : Int) then (if ((rd_L1 x0 x4).length : Int) ≤ 1000 then ((rubrickref03_Leaf.f k (rd_L1 x0 x4)).bind fun t162 => (if x3.length < 8796093022208 then (rubricklaw07_digests.l0 k x0 (x3 ++ [t162]) (wrap64 (x4 + 1))) else (none))) else (rubricklaw07_digests.l0 k x0 x3 (wrap64 (x4 + 1)))) else (none)) else (none)) else (some x3)
end
def rubricklaw07_digests.f (k : Nat) (l0 : List (List Int)) : Option (List ByteArray) := rubricklaw07_digests.l0 k l0 ([] : List ByteArray) 0
set_option maxHeartbeats 8000000 in
set_option maxRecDepth 100000 in
theorem rubricklaw07_digests.calls (k : Nat) (A0 : Option Addr) (c0 : Nat) (l0 : List (List Int)) (r : List ByteArray) (w : World) (hr0 : Kd.C (Kd.slice 5 (Kd.int .u8)) w A0 l0.length l0) (hc0 : l0.length ≤ c0) (h : rubricklaw07_digests.f k l0 = some r) :
  Calls Tryd.prog 23 #[.slice A0 l0.length c0] w fun e w' => ∃ v0_ : Value, e = .returned (v0_) ∧ Kd.R Kd.string 9 w' w.heap.size (fun _ => True) v0_ r ∧ Below w.heap.size w w' := by
 have HR0 := Aside0.mk hr0
 have HC0 := Aside0.mk hc0
 clear hr0 hc0
 have HB := Aside0.mk (Below.refl w.heap.size w)
 have H : (rubricklaw07_digests.l0 k l0 ([] : List ByteArray) 0) = some r := h
 clear h
 have H' := Aside0.mk H
 clear H
 go_enter Tryd.func23, Tryd.ntmps23
 go_wp2
 go_loopg [3, 4] k (fun kq v3 v4 w' => ∃ (x3_1 : List ByteArray) (x4_1 : Int), v4 = .int .i64 x4_1 ∧ Aside0 (rubricklaw07_digests.l0 kq l0 x3_1 x4_1 = some r) ∧ Aside0 (kq ≤ k) ∧ Aside0 (Kd.R Kd.string 9 w' w.heap.size (fun _ => True) v3 x3_1) ∧ Aside0 (Below w.heap.size w w'))
 case atStart => exact ⟨(([] : List ByteArray)), (0), (by first | rfl | (simp; done) | (simp [*]; done)), H', ⟨Nat.le_refl _⟩, ⟨by first | exact Kd.R_nil _ _ _ _ _ | exact Kd.N_nil _ _ _ _ _ | exact Kd.V_nil _ _ _ _ _ | exact Kd.Q_nil _ _ _ _ _ | exact Kd.S_nil _ _ _ _ _⟩, ⟨by repeat (first | (with_reducible first | exact HB.out | apply below_alloc | apply pw_below_drewN | apply below_drew1) | exact HB.out)⟩⟩
 case round =>
  clear H'
  obtain ⟨x3_1, x4_1, rfl, HA, HK1, HO_3, HB⟩ := hrel
  cases gk with
  | zero => exact absurd HA.out (by simp [rubricklaw07_digests.l0])
  | succ k1 =>
   have H := HA.out
   clear HA
   simp only [rubricklaw07_digests.l0] at H
   have HC2 := Aside0.mk H
   clear H
   go_upto_region 3 with (fail)
   go_cut [12] (fun v12 wc => ∃ (kq : Nat) (x12_1 : Bool), v12 = .bool x12_1 ∧ Aside0 (rubricklaw07_digests.j1 kq l0 x3_1 x4_1 x12_1 = some r) ∧ Aside0 (kq ≤ k1) ∧ Aside0 (Kd.R Kd.string 9 wc w.heap.size (fun _ => True) u3 x3_1) ∧ Aside0 (Below w.heap.size w wc))
   case first =>
    have H := HC2.out
    clear HC2
    by_cases c3 : x4_1 < (l0.length : Int)
    ·rw [if_pos c3] at H
     have c3b0 : decide (x4_1 < (l0.length : Int)) = true := decide_eq_true c3
     clear c3
     (first | rw [c3b0] | (simp only [i64_w, i32_w]; rw [c3b0]) | skip)
     have H' := Aside0.mk H
     clear H
     go_wp2
     go_meet
     case rel => exact ⟨_, (decide (x4_1 < 40)), (by first | rfl | (simp; done) | (simp [*]; done)), H', ⟨by have := HK1.out; first | omega | exact Nat.le_refl _⟩, ⟨by (with_reducible repeat (first | apply Kd.R_alloc | apply Kd.R_drewN | apply Kd.R_drew)); exact HO_3.out⟩, ⟨by repeat (first | (with_reducible first | exact HB.out | apply below_alloc | apply pw_below_drewN | apply below_drew1) | exact HB.out)⟩⟩
    ·rw [if_neg c3] at H
     have c3b0 : decide (x4_1 < (l0.length : Int)) = false := decide_eq_false c3
     clear c3
     (first | rw [c3b0] | (simp only [i64_w, i32_w]; rw [c3b0]) | skip)
     have H' := Aside0.mk H
     clear H
     go_wp2
     go_meet
     case rel => exact ⟨_, (false), (by first | rfl | (simp; done) | (simp [*]; done)), H', ⟨by have := HK1.out; first | omega | exact Nat.le_refl _⟩, ⟨by (with_reducible repeat (first | apply Kd.R_alloc | apply Kd.R_drewN | apply Kd.R_drew)); exact HO_3.out⟩, ⟨by repeat (first | (with_reducible first | exact HB.out | apply below_alloc | apply pw_below_drewN | apply below_drew1) | exact HB.out)⟩⟩
   case rest =>
    clear HC2
    try clear c2
    try clear p2
    try clear c3
    try clear c3b0
    obtain ⟨kq, x12_1, rfl, HA, HJ1, HO_3, HB⟩ := hcut
    cases kq with
    | zero => exact absurd HA.out (by simp [rubricklaw07_digests.j1])
    | succ kj1 =>
     have H := HA.out
     clear HA
     simp only [rubricklaw07_digests.j1] at H
     by_cases c4 : x12_1 = true
     ·subst c4
      have H1 : (if 0 ≤ x4_1 then (if x4_1 < (l0.length : Int) then (if ((rd_L1 l0 x4_1).length : Int) ≤ 1000 then ((rubrickref03_Leaf.f kj1 (rd_L1 l0 x4_1)).bind fun t162 => (if x3_1.length < 8796093022208 then (rubricklaw07_digests.l0 kj1 l0 (x3_1 ++ [t162]) (wrap64 (x4_1 + 1))) else (none))) else (rubricklaw07_digests.l0 kj1 l0 x3_1 (wrap64 (x4_1 + 1)))) else (none)) else (none)) = some r := by rw [if_pos rfl] at H; exact H
      clear H
      have H := H1
      clear H1
      by_cases c5 : 0 ≤ x4_1
      ·rw [if_pos c5] at H
       have c5b0 : decide (0 ≤ x4_1) = true := decide_eq_true c5
       clear c5
       by_cases c6 : x4_1 < (l0.length : Int)
       ·rw [if_pos c6] at H
        have c6b0 : decide (x4_1 < (l0.length : Int)) = true := decide_eq_true c6
        clear c6
        by_cases c7 : ((rd_L1 l0 x4_1).length : Int) ≤ 1000
        ·rw [if_pos c7] at H
         have c7b0 : decide (((rd_L1 l0 x4_1).length : Int) ≤ 1000) = true := decide_eq_true c7
         have c7b1 : decide ((rd_L1 l0 x4_1).length ≤ 1000) = true := decide_eq_true (by omega)
         clear c7
         replace H := Option.bind_eq_some_iff.mp H
         obtain ⟨t162, A80, H⟩ := H
         replace H : (if x3_1.length < 8796093022208 then (rubricklaw07_digests.l0 kj1 l0 (x3_1 ++ [t162]) (wrap64 (x4_1 + 1))) else (none)) = some r := H
         have A8 := Aside0.mk A80
         clear A80
         by_cases c9 : x3_1.length < 8796093022208
         ·rw [if_pos c9] at H
          have LMc9 := Aside0.mk c9
          clear c9
          obtain ⟨y163, hy163⟩ : ∃ y_ : List ByteArray, y_ = (x3_1 ++ [t162]) := ⟨_, rfl⟩
          replace H : (rubricklaw07_digests.l0 kj1 l0 y163 (wrap64 (x4_1 + 1))) = some r := by first | (rw [hy163]; with_reducible exact H) | (have H2_ := (Option.bind_some _ _).symm.trans H; rw [hy163]; with_reducible exact H2_) | (have H2_ := (Option.bind_some _ _).symm.trans H; with_reducible exact H2_) | with_reducible exact H | (rw [hy163]; exact H) | exact H
          have Ny163 := Aside0.mk hy163
          clear hy163
          have H' := Aside0.mk H
          clear H
          have p160 : 0 ≤ (x4_1 : Int) := of_decide_eq_true (by first | (with_reducible assumption) | assumption)
          have q160 : x4_1 < (l0.length : Int) := of_decide_eq_true (by first | (with_reducible assumption) | assumption)
          obtain ⟨ad160, A160_0, c160_0, e160, hx160_0, hl160_0, hi160_0⟩ := at_L1 HR0.out x4_1 p160 q160
          cases e160
          replace hx160_0 := (HB.out.cell (World.block_lt_of_cell? w _ hx160_0)).trans hx160_0
          have HR160_0 := Aside0.mk hi160_0
          have HC160_0 := Aside0.mk hl160_0
          clear hi160_0 hl160_0
          replace p160 := eq_true p160
          replace q160 := eq_true q160
          have p161 : 0 ≤ (x4_1 : Int) := of_decide_eq_true (by first | (with_reducible assumption) | assumption)
          have q161 : x4_1 < (l0.length : Int) := of_decide_eq_true (by first | (with_reducible assumption) | assumption)
          obtain ⟨ad161, A161_0, c161_0, e161, hx161_0, hl161_0, hi161_0⟩ := at_L1 HR0.out x4_1 p161 q161
          obtain rfl : ad160 = ad161 := (by injection e161)
          replace hx161_0 := (HB.out.cell (World.block_lt_of_cell? w _ hx161_0)).trans hx161_0
          have HR161_0 := Aside0.mk hi161_0
          have HC161_0 := Aside0.mk hl161_0
          clear hi161_0 hl161_0
          replace p161 := eq_true p161
          replace q161 := eq_true q161
          have ea_ := Option.some.inj (hx160_0.symm.trans hx161_0)
          injection ea_ with ea_ en_ ec_
          subst ea_
          subst ec_
          clear en_
          go_wp2_with (first | ((with_reducible refine gate_callee (f := 33) rfl ?_); refine goesL_ (some 26) rfl rfl Tryd.func33 (by kernel_rfl) rfl #[.slice A160_0 (rd_L1 l0 x4_1).length c160_0] rfl (by (try simp only [List.map_toArray, List.map_cons, List.map_nil]); first | done | rfl | (simp only [List.length_drop, List.length_take]; rfl)) ?_; (with_reducible refine (rubrickref03_Leaf.calls kj1 _ _ (rd_L1 l0 x4_1) t162 _ ?side1 ?side2 A8.out).mono ?_); (case side1 => repeat (first | exact (Kd.C_below HR161_0.out HB.out) | (with_reducible refine Kd.C_alloc ?_ _) | (with_reducible refine Kd.C_drewN ?_ _) | (with_reducible refine Kd.C_drew ?_))); (case side2 => exact HC161_0.out); rintro e w10 ⟨rfl, hb⟩; refine ⟨_, rfl, ?_⟩; have n0_ := Aside0.mk (Kd.R_below (by (with_reducible repeat (first | apply Kd.R_alloc | apply Kd.R_drewN | apply Kd.R_drew)); exact HO_3.out) hb); have n1_ := Aside0.mk (below_step (by repeat (first | (with_reducible first | exact HB.out | apply below_alloc | apply pw_below_drewN | apply below_drew1) | exact HB.out)) hb); clear HO_3; clear HB; have HO_3 := n0_; have HB := n1_; clear n0_ n1_; (try clear hb); (try clear hb2); (try clear hk); (try clear hi)) | ((with_reducible refine gate_builtin (b := .append) (xs := #[.tmp 21, .tmp 27]) rfl ?_); at_builtin; refine Kd.R_append Kd.string (w0 := w) w.heap.size rfl (.tmp 21) (.tmp 27) 22 9 (.string ⟨#[]⟩) 16 rfl Tryd.underlying22 info9 rfl (by decide) (by omega) u3 x3_1 t162 [.string t162] (fun _ => True) (fun _ => False) rfl rfl ?aP (fun _ hk => hk.elim) ?aF ?aO ?aB ?aS ?aL ?_; (case aP => exact rfl); (case aB => exact (by repeat (first | (with_reducible first | exact HB.out | apply below_alloc | apply pw_below_drewN | apply below_drew1) | exact HB.out))); (case aF => exact (fun _ _ => trivial)); (case aO => exact (by (with_reducible repeat (first | apply Kd.R_alloc | apply Kd.R_drewN | apply Kd.R_drew)); exact HO_3.out)); (case aS => exact (below_size (by repeat (first | (with_reducible first | exact HB.out | apply below_alloc | apply pw_below_drewN | apply below_drew1) | exact HB.out)))); (case aL => have := LMc9.out; omega); intro v164 w11 ho hb hg hat; rw [← Ny163.out] at ho; have n0_ := Aside0.mk (hb); have n1_ := Aside0.mk (ho); clear HB; clear HO_3; have HB := n0_; have HO165 := n1_; clear n0_ n1_; clear ho hb hg hat))
          go_roundg kj1
          case measure => have := HK1.out; have := HJ1.out; omega
          case rel => exact ⟨(y163), (wrap64 (x4_1 + 1)), (by first | rfl | (simp; done) | (simp [*]; done)), H', ⟨by have := HK1.out; have := HJ1.out; omega⟩, ⟨by (with_reducible repeat (first | apply Kd.R_alloc | apply Kd.R_drewN | apply Kd.R_drew)); exact HO165.out⟩, ⟨by repeat (first | (with_reducible first | exact HB.out | apply below_alloc | apply pw_below_drewN | apply below_drew1) | exact HB.out)⟩⟩
         ·rw [if_neg c9] at H
          exact absurd H (by simp)
        ·rw [if_neg c7] at H
         have c7b0 : decide (((rd_L1 l0 x4_1).length : Int) ≤ 1000) = false := decide_eq_false c7
         have c7b1 : decide ((rd_L1 l0 x4_1).length ≤ 1000) = false := decide_eq_false (by omega)
         clear c7
         have H' := Aside0.mk H
         clear H
         have p160 : 0 ≤ (x4_1 : Int) := of_decide_eq_true (by first | (with_reducible assumption) | assumption)
         have q160 : x4_1 < (l0.length : Int) := of_decide_eq_true (by first | (with_reducible assumption) | assumption)
         obtain ⟨ad160, A160_0, c160_0, e160, hx160_0, hl160_0, hi160_0⟩ := at_L1 HR0.out x4_1 p160 q160
         cases e160
         replace hx160_0 := (HB.out.cell (World.block_lt_of_cell? w _ hx160_0)).trans hx160_0
         have HR160_0 := Aside0.mk hi160_0
         have HC160_0 := Aside0.mk hl160_0
         clear hi160_0 hl160_0
         replace p160 := eq_true p160
         replace q160 := eq_true q160
         go_wp2
         go_roundg kj1
         case measure => have := HK1.out; have := HJ1.out; omega
         case rel => exact ⟨(x3_1), (wrap64 (x4_1 + 1)), (by first | rfl | (simp; done) | (simp [*]; done)), H', ⟨by have := HK1.out; have := HJ1.out; omega⟩, ⟨by (with_reducible repeat (first | apply Kd.R_alloc | apply Kd.R_drewN | apply Kd.R_drew)); exact HO_3.out⟩, ⟨by repeat (first | (with_reducible first | exact HB.out | apply below_alloc | apply pw_below_drewN | apply below_drew1) | exact HB.out)⟩⟩
       ·rw [if_neg c6] at H
        exact absurd H (by simp)
      ·rw [if_neg c5] at H
       exact absurd H (by simp)
     ·replace c4 := Bool.eq_false_iff.mpr c4
      subst c4
      have H1 : (some x3_1) = some r := by rw [if_neg (show ¬ (false = true) by decide)] at H; exact H
      clear H
      have H := H1
      clear H1
      obtain rfl := Option.some.inj H
      go_wp2
      go_ret
      exact ⟨_, by first | rfl | (simp [errW_none, errW_some] <;> rfl) | (simp [*, errW_none, errW_some] <;> rfl), by (with_reducible repeat (first | apply Kd.R_alloc | apply Kd.R_drewN | apply Kd.R_drew)); exact HO_3.out, by repeat (first | (with_reducible first | exact HB.out | apply below_alloc | apply pw_below_drewN | apply below_drew1) | exact HB.out)⟩
end Go.Proofs.YtpmefpdafkbphaaDoor.PK

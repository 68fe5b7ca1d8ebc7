import Derived.Test.YtjcfimnijpcjmaaDoorProg
import Derived.Below
import Derived.Deep.Draws
import Derived.Deep.AppendLies
import Derived.Maps.AppendAt
import Derived.OwnWalk
import Derived.Laws.BytesArg
import Derived.Laws.MakeOwn
import Derived.Laws.OwnMore
import Derived.Deep.OwnRows
import Derived.Tactics
import Derived.Lib.ConvBytes
import Derived.Laws.Slices
import Derived.WalkKit
import Derived.KernelRfl
import Derived.RowKit3
import Derived.Deep.LoopGhost
import Derived.Deep.QuietTactic
import Derived.BigQuiet
import Derived.WideLaws
import Derived.Deep.DeepCutAuto
import Derived.Deep.CutBlock
import Derived.Deep.RegionHeld3
import Derived.Laws.Rows
import Derived.Lib.AppendStr
import Derived.ArgAppend
import Derived.Laws.IdiomCopy
import Derived.OrdersHeld
import Derived.Laws.BitsLemmas
import Derived.RowKit
import Derived.WalkMore
import Derived.Test.YtjcfimnijpcjmaaDoorZaHShaD
import Derived.Test.YtjcfimnijpcjmaaDoorZaHConv
import Derived.Test.YtjcfimnijpcjmaaDoorZaPS
import Derived.Test.YtjcfimnijpcjmaaDoorZaPX
import Derived.Test.YtjcfimnijpcjmaaDoorZaWWords
import Derived.Test.YtjcfimnijpcjmaaDoorZaWLast
import Derived.Test.YtjcfimnijpcjmaaDoorZaWTab
import Derived.Test.YtjcfimnijpcjmaaDoorZaWApart
import Derived.Test.YtjcfimnijpcjmaaDoorZaWFoot
import Derived.Test.YtjcfimnijpcjmaaDoorZaWKept
import Derived.Test.YtjcfimnijpcjmaaDoorZaWShare
import Derived.Test.YtjcfimnijpcjmaaDoorZaWN
import Derived.Laws.StructEq
import Derived.Test.YtjcfimnijpcjmaaDoorZaWRepsOne
import Derived.Test.YtjcfimnijpcjmaaDoorZaWInv
import Derived.Test.YtjcfimnijpcjmaaDoorZaWGuard
import Derived.Test.YtjcfimnijpcjmaaDoorZaWMore
-- PRINTED by print.py (a twelfth state) out of the translation. Not trusted: Lean checks it.
namespace Go.Proofs.YtjcfimnijpcjmaaDoor.PK
open Go.RowKit Go.Proofs.YtjcfimnijpcjmaaDoor Go.Proofs.YtjcfimnijpcjmaaDoor.HSha Go.Proofs.YtjcfimnijpcjmaaDoor.PS Go.Proofs.YtjcfimnijpcjmaaDoor.PX Go.Proofs.YtjcfimnijpcjmaaDoorW.PrintWords Go.Proofs.YtjcfimnijpcjmaaDoorW.PrintLast Go.Proofs.YtjcfimnijpcjmaaDoorW.PrintMore
attribute [local go_sem] max2_int min2_int max_two min_two max_three min_three max_four min_four   -- for this text's walks alone
set_option linter.unusedVariables false
set_option linter.unusedSimpArgs false
def errW : Option Int → Value
 | none => .nilIface
 | some c => .iface 0 (.int .i64 c)
theorem errW_none : errW none = .nilIface := rfl
theorem errW_some (c : Int) : errW (some c) = .iface 0 (.int .i64 c) := rfl
theorem info5 : (Tryd.prog.info? 5).map (fun i => (i.zero, i.size, i.bytes)) = some (some (.int .u8 0), 1, 1) := by kernel_rfl
-- the values' own types
end Go.Proofs.YtjcfimnijpcjmaaDoor.PK
namespace Go.Proofs.YtjcfimnijpcjmaaDoor.PK
open Go.RowKit Go.Proofs.YtjcfimnijpcjmaaDoor Go.Proofs.YtjcfimnijpcjmaaDoor.HSha Go.Proofs.YtjcfimnijpcjmaaDoor.PS Go.Proofs.YtjcfimnijpcjmaaDoor.PX Go.Proofs.YtjcfimnijpcjmaaDoorW.PrintWords Go.Proofs.YtjcfimnijpcjmaaDoorW.PrintLast Go.Proofs.YtjcfimnijpcjmaaDoorW.PrintMore
attribute [local go_sem] max2_int min2_int max_two min_two max_three min_three max_four min_four   -- for this text's walks alone
set_option linter.unusedVariables false
set_option linter.unusedSimpArgs false
/-! ### rubricklaw01_knows: function 26 -/
def rubricklaw01_knows.f (k : Nat)  : Option (Bool) := (sha_FromHex.f k (⟨#[98, 97, 55, 56, 49, 54, 98, 102, 56, 102, 48, 49, 99, 102, 101, 97, 52, 49, 52, 49, 52, 48, 100, 101, 53, 100, 97, 101, 50, 50, 50, 51, 98, 48, 48, 51, 54, 49, 97, 51, 57, 54, 49, 55, 55, 97, 57, 99, 98, 52, 49, 48, 102, 102, 54, 49, 102, 50, 48, 48, 49, 53, 97, 100]⟩ : ByteArray)).bind fun bt101 => ((sha_Sum.f ([] : List Int)).bind fun t103 => ((sha_Hex.f k t103).bind fun t104 => (if t104.toList = ([101, 51, 98, 48, 99, 52, 52, 50, 57, 56, 102, 99, 49, 99, 49, 52, 57, 97, 102, 98, 102, 52, 99, 56, 57, 57, 54, 102, 98, 57, 50, 52, 50, 55, 97, 101, 52, 49, 101, 52, 54, 52, 57, 98, 57, 51, 52, 99, 97, 52, 57, 53, 57, 57, 49, 98, 55, 56, 53, 50, 98, 56, 53, 53] : List UInt8) then ((sha_Sum.f (([97, 98, 99] : List Int))).bind fun t108 => (if t108.toList = bt101.1.toList then (if bt101.2 = 0 then ((sha_New.f).bind fun bt109 => ((sha_End.f bt109.1 bt109.2.1 bt109.2.2.1 bt109.2.2.2.1 bt109.2.2.2.2.1 bt109.2.2.2.2.2.1 bt109.2.2.2.2.2.2.1 bt109.2.2.2.2.2.2.2.1 bt109.2.2.2.2.2.2.2.2.1 bt109.2.2.2.2.2.2.2.2.2).bind fun t121 => ((sha_Sum.f ([] : List Int)).bind fun t122 => (some (t121.toList == t122.toList))))) else (some false)) else (some false))) else (some false))))
theorem rubricklaw01_knows.mono : ∀ k, LeO (rubricklaw01_knows.f k ) (rubricklaw01_knows.f (k + 1) ) := by
 intro  k
 unfold rubricklaw01_knows.f
 repeat' first
   | (with_reducible exact sha_FromHex.mono _ _)
   | (with_reducible exact sha_Hex.mono _ _)
   | (with_reducible exact LeO.refl _)
   | (with_reducible exact LeO.none _)
   | (with_reducible refine LeO.ite ?_ ?_)
   | (with_reducible refine LeO.bind ?_ (fun _ => ?_))
set_option maxRecDepth 1000000 in
theorem rubricklaw01_knows.sure : rubricklaw01_knows.f 200 = some true := by decide +kernel
theorem rubricklaw01_knows.only (k : Nat) (r : Bool) (h : rubricklaw01_knows.f k = some r) : r = true := by
 have u : ∀ d, rubricklaw01_knows.f (200 + d) = some true := fun d => by
  induction d with
  | zero => exact rubricklaw01_knows.sure
  | succ d ih => exact rubricklaw01_knows.mono _ _ ih
 have v : ∀ d, rubricklaw01_knows.f (k + d) = some r := fun d => by
  induction d with
  | zero => exact h
  | succ d ih => exact rubricklaw01_knows.mono _ _ ih
 have e := v 200
 rw [Nat.add_comm, u k] at e
 exact (Option.some.inj e).symm
set_option maxHeartbeats 8000000 in
set_option maxRecDepth 100000 in
theorem rubricklaw01_knows.calls (k : Nat)  (r : Bool) (w : World) (hG_ : Aside0 (GW w)) (h : rubricklaw01_knows.f k  = some r) :
  Calls Tryd.prog 26 #[] w fun e w' => e = .returned (.bool r) ∧ Below w.heap.size w w' := by
 have HB := Aside0.mk (Below.refl w.heap.size w)
 obtain rfl := rubricklaw01_knows.only k r h
 have H : ((sha_FromHex.f k (⟨#[98, 97, 55, 56, 49, 54, 98, 102, 56, 102, 48, 49, 99, 102, 101, 97, 52, 49, 52, 49, 52, 48, 100, 101, 53, 100, 97, 101, 50, 50, 50, 51, 98, 48, 48, 51, 54, 49, 97, 51, 57, 54, 49, 55, 55, 97, 57, 99, 98, 52, 49, 48, 102, 102, 54, 49, 102, 50, 48, 48, 49, 53, 97, 100]⟩ : ByteArray)).bind fun bt101 => ((sha_Sum.f ([] : List Int)).bind fun t103 => ((sha_Hex.f k t103).bind fun t104 => (if t104.toList = ([101, 51, 98, 48, 99, 52, 52, 50, 57, 56, 102, 99, 49, 99, 49, 52, 57, 97, 102, 98, 102, 52, 99, 56, 57, 57, 54, 102, 98, 57, 50, 52, 50, 55, 97, 101, 52, 49, 101, 52, 54, 52, 57, 98, 57, 51, 52, 99, 97, 52, 57, 53, 57, 57, 49, 98, 55, 56, 53, 50, 98, 56, 53, 53] : List UInt8) then ((sha_Sum.f (([97, 98, 99] : List Int))).bind fun t108 => (if t108.toList = bt101.1.toList then (if bt101.2 = 0 then ((sha_New.f).bind fun bt109 => ((sha_End.f bt109.1 bt109.2.1 bt109.2.2.1 bt109.2.2.2.1 bt109.2.2.2.2.1 bt109.2.2.2.2.2.1 bt109.2.2.2.2.2.2.1 bt109.2.2.2.2.2.2.2.1 bt109.2.2.2.2.2.2.2.2.1 bt109.2.2.2.2.2.2.2.2.2).bind fun t121 => ((sha_Sum.f ([] : List Int)).bind fun t122 => (some (t121.toList == t122.toList))))) else (some false)) else (some false))) else (some false))))) = some true := h
 clear h
 replace H := Option.bind_eq_some_iff.mp H
 obtain ⟨⟨t101, t102⟩, A10, H⟩ := H
 replace H : ((sha_Sum.f ([] : List Int)).bind fun t103 => ((sha_Hex.f k t103).bind fun t104 => (if t104.toList = ([101, 51, 98, 48, 99, 52, 52, 50, 57, 56, 102, 99, 49, 99, 49, 52, 57, 97, 102, 98, 102, 52, 99, 56, 57, 57, 54, 102, 98, 57, 50, 52, 50, 55, 97, 101, 52, 49, 101, 52, 54, 52, 57, 98, 57, 51, 52, 99, 97, 52, 57, 53, 57, 57, 49, 98, 55, 56, 53, 50, 98, 56, 53, 53] : List UInt8) then ((sha_Sum.f (([97, 98, 99] : List Int))).bind fun t108 => (if t108.toList = t101.toList then (if t102 = 0 then ((sha_New.f).bind fun bt109 => ((sha_End.f bt109.1 bt109.2.1 bt109.2.2.1 bt109.2.2.2.1 bt109.2.2.2.2.1 bt109.2.2.2.2.2.1 bt109.2.2.2.2.2.2.1 bt109.2.2.2.2.2.2.2.1 bt109.2.2.2.2.2.2.2.2.1 bt109.2.2.2.2.2.2.2.2.2).bind fun t121 => ((sha_Sum.f ([] : List Int)).bind fun t122 => (some (t121.toList == t122.toList))))) else (some false)) else (some false))) else (some false)))) = some true := H
 have A1 := Aside0.mk A10
 clear A10
 replace H := Option.bind_eq_some_iff.mp H
 obtain ⟨t103, A20, H⟩ := H
 replace H : ((sha_Hex.f k t103).bind fun t104 => (if t104.toList = ([101, 51, 98, 48, 99, 52, 52, 50, 57, 56, 102, 99, 49, 99, 49, 52, 57, 97, 102, 98, 102, 52, 99, 56, 57, 57, 54, 102, 98, 57, 50, 52, 50, 55, 97, 101, 52, 49, 101, 52, 54, 52, 57, 98, 57, 51, 52, 99, 97, 52, 57, 53, 57, 57, 49, 98, 55, 56, 53, 50, 98, 56, 53, 53] : List UInt8) then ((sha_Sum.f (([97, 98, 99] : List Int))).bind fun t108 => (if t108.toList = t101.toList then (if t102 = 0 then ((sha_New.f).bind fun bt109 => ((sha_End.f bt109.1 bt109.2.1 bt109.2.2.1 bt109.2.2.2.1 bt109.2.2.2.2.1 bt109.2.2.2.2.2.1 bt109.2.2.2.2.2.2.1 bt109.2.2.2.2.2.2.2.1 bt109.2.2.2.2.2.2.2.2.1 bt109.2.2.2.2.2.2.2.2.2).bind fun t121 => ((sha_Sum.f ([] : List Int)).bind fun t122 => (some (t121.toList == t122.toList))))) else (some false)) else (some false))) else (some false))) = some true := H
 have A2 := Aside0.mk A20
 clear A20
 replace H := Option.bind_eq_some_iff.mp H
 obtain ⟨t104, A30, H⟩ := H
 replace H : (if t104.toList = ([101, 51, 98, 48, 99, 52, 52, 50, 57, 56, 102, 99, 49, 99, 49, 52, 57, 97, 102, 98, 102, 52, 99, 56, 57, 57, 54, 102, 98, 57, 50, 52, 50, 55, 97, 101, 52, 49, 101, 52, 54, 52, 57, 98, 57, 51, 52, 99, 97, 52, 57, 53, 57, 57, 49, 98, 55, 56, 53, 50, 98, 56, 53, 53] : List UInt8) then ((sha_Sum.f (([97, 98, 99] : List Int))).bind fun t108 => (if t108.toList = t101.toList then (if t102 = 0 then ((sha_New.f).bind fun bt109 => ((sha_End.f bt109.1 bt109.2.1 bt109.2.2.1 bt109.2.2.2.1 bt109.2.2.2.2.1 bt109.2.2.2.2.2.1 bt109.2.2.2.2.2.2.1 bt109.2.2.2.2.2.2.2.1 bt109.2.2.2.2.2.2.2.2.1 bt109.2.2.2.2.2.2.2.2.2).bind fun t121 => ((sha_Sum.f ([] : List Int)).bind fun t122 => (some (t121.toList == t122.toList))))) else (some false)) else (some false))) else (some false)) = some true := H
 have A3 := Aside0.mk A30
 clear A30
 by_cases c4 : t104.toList = ([101, 51, 98, 48, 99, 52, 52, 50, 57, 56, 102, 99, 49, 99, 49, 52, 57, 97, 102, 98, 102, 52, 99, 56, 57, 57, 54, 102, 98, 57, 50, 52, 50, 55, 97, 101, 52, 49, 101, 52, 54, 52, 57, 98, 57, 51, 52, 99, 97, 52, 57, 53, 57, 57, 49, 98, 55, 56, 53, 50, 98, 56, 53, 53] : List UInt8)
 ·rw [if_pos c4] at H
  have c4b0 : (t104.toList == ([101, 51, 98, 48, 99, 52, 52, 50, 57, 56, 102, 99, 49, 99, 49, 52, 57, 97, 102, 98, 102, 52, 99, 56, 57, 57, 54, 102, 98, 57, 50, 52, 50, 55, 97, 101, 52, 49, 101, 52, 54, 52, 57, 98, 57, 51, 52, 99, 97, 52, 57, 53, 57, 57, 49, 98, 55, 56, 53, 50, 98, 56, 53, 53] : List UInt8)) = true := beq_iff_eq.mpr c4
  have c4b1 : (t104.toList != ([101, 51, 98, 48, 99, 52, 52, 50, 57, 56, 102, 99, 49, 99, 49, 52, 57, 97, 102, 98, 102, 52, 99, 56, 57, 57, 54, 102, 98, 57, 50, 52, 50, 55, 97, 101, 52, 49, 101, 52, 54, 52, 57, 98, 57, 51, 52, 99, 97, 52, 57, 53, 57, 57, 49, 98, 55, 56, 53, 50, 98, 56, 53, 53] : List UInt8)) = false := bne_eq_false_iff_eq.mpr c4
  clear c4
  obtain ⟨y105, hy105⟩ : ∃ y_ : List Int, y_ = (([97, 98, 99] : List Int)) := ⟨_, rfl⟩
  replace H : ((sha_Sum.f y105).bind fun t108 => (if t108.toList = t101.toList then (if t102 = 0 then ((sha_New.f).bind fun bt109 => ((sha_End.f bt109.1 bt109.2.1 bt109.2.2.1 bt109.2.2.2.1 bt109.2.2.2.2.1 bt109.2.2.2.2.2.1 bt109.2.2.2.2.2.2.1 bt109.2.2.2.2.2.2.2.1 bt109.2.2.2.2.2.2.2.2.1 bt109.2.2.2.2.2.2.2.2.2).bind fun t121 => ((sha_Sum.f ([] : List Int)).bind fun t122 => (some (t121.toList == t122.toList))))) else (some false)) else (some false))) = some true := by first | (rw [hy105]; with_reducible exact H) | (have H2_ := (Option.bind_some _ _).symm.trans H; rw [hy105]; with_reducible exact H2_) | (have H2_ := (Option.bind_some _ _).symm.trans H; with_reducible exact H2_) | with_reducible exact H | (rw [hy105]; exact H) | exact H
  have Ny105 := Aside0.mk hy105
  clear hy105
  replace H := Option.bind_eq_some_iff.mp H
  obtain ⟨t108, A50, H⟩ := H
  replace H : (if t108.toList = t101.toList then (if t102 = 0 then ((sha_New.f).bind fun bt109 => ((sha_End.f bt109.1 bt109.2.1 bt109.2.2.1 bt109.2.2.2.1 bt109.2.2.2.2.1 bt109.2.2.2.2.2.1 bt109.2.2.2.2.2.2.1 bt109.2.2.2.2.2.2.2.1 bt109.2.2.2.2.2.2.2.2.1 bt109.2.2.2.2.2.2.2.2.2).bind fun t121 => ((sha_Sum.f ([] : List Int)).bind fun t122 => (some (t121.toList == t122.toList))))) else (some false)) else (some false)) = some true := H
  have A5 := Aside0.mk A50
  clear A50
  by_cases c6 : t108.toList = t101.toList
  ·rw [if_pos c6] at H
   have c6b0 : (t108.toList == t101.toList) = true := beq_iff_eq.mpr c6
   have c6b1 : (t108.toList != t101.toList) = false := bne_eq_false_iff_eq.mpr c6
   clear c6
   by_cases c7 : t102 = 0
   ·rw [if_pos c7] at H
    have c7b0 : (t102 == 0) = true := beq_iff_eq.mpr c7
    have c7b1 : (t102 != 0) = false := bne_eq_false_iff_eq.mpr c7
    clear c7
    replace H := Option.bind_eq_some_iff.mp H
    obtain ⟨⟨t109, t110, t111, t112, t113, t114, t115, t116, t117, t120⟩, A80, H⟩ := H
    replace H : ((sha_End.f t109 t110 t111 t112 t113 t114 t115 t116 t117 t120).bind fun t121 => ((sha_Sum.f ([] : List Int)).bind fun t122 => (some (t121.toList == t122.toList)))) = some true := H
    have A8 := Aside0.mk A80
    clear A80
    replace H := Option.bind_eq_some_iff.mp H
    obtain ⟨t121, A90, H⟩ := H
    replace H : ((sha_Sum.f ([] : List Int)).bind fun t122 => (some (t121.toList == t122.toList))) = some true := H
    have A9 := Aside0.mk A90
    clear A90
    replace H := Option.bind_eq_some_iff.mp H
    obtain ⟨t122, A100, H⟩ := H
    replace H : (some (t121.toList == t122.toList)) = some true := H
    have A10 := Aside0.mk A100
    clear A100
    have HT2_ := Aside0.mk (Option.some.inj H)
    clear H
    go_enter Tryd.func26, Tryd.ntmps26
    go_wp2_with (first | ((with_reducible refine gate_callee (f := 32) rfl ?_); refine goesL_ (some 4) rfl rfl Tryd.func32 (by kernel_rfl) rfl #[.string (⟨#[98, 97, 55, 56, 49, 54, 98, 102, 56, 102, 48, 49, 99, 102, 101, 97, 52, 49, 52, 49, 52, 48, 100, 101, 53, 100, 97, 101, 50, 50, 50, 51, 98, 48, 48, 51, 54, 49, 97, 51, 57, 54, 49, 55, 55, 97, 57, 99, 98, 52, 49, 48, 102, 102, 54, 49, 102, 50, 48, 48, 49, 53, 97, 100]⟩ : ByteArray)] rfl (by (try simp only [List.map_toArray, List.map_cons, List.map_nil]); first | done | rfl | (simp only [List.length_drop, List.length_take]; rfl)) ?_; (with_reducible refine (sha_FromHex.calls k (⟨#[98, 97, 55, 56, 49, 54, 98, 102, 56, 102, 48, 49, 99, 102, 101, 97, 52, 49, 52, 49, 52, 48, 100, 101, 53, 100, 97, 101, 50, 50, 50, 51, 98, 48, 48, 51, 54, 49, 97, 51, 57, 54, 49, 55, 55, 97, 57, 99, 98, 52, 49, 48, 102, 102, 54, 49, 102, 50, 48, 48, 49, 53, 97, 100]⟩ : ByteArray) t101 t102 _ A1.out).mono ?_); rintro e w11 ⟨rfl, hb⟩; refine ⟨_, rfl, ?_⟩; have n0_ := Aside0.mk (below_step (by repeat (first | (with_reducible first | exact HB.out | apply below_alloc | apply pw_below_drewN | apply below_drew1) | exact HB.out)) hb); clear HB; have HB := n0_; clear n0_; (try clear hb); (try clear hb2); (try clear hk); (try clear hi)) | ((with_reducible refine gate_callee (f := 27) rfl ?_); refine goesL_ (some 7) rfl rfl Tryd.func27 (by kernel_rfl) rfl #[.slice none 0 0] rfl (by (try simp only [List.map_toArray, List.map_cons, List.map_nil]); first | done | rfl | (simp only [List.length_drop, List.length_take]; rfl)) ?_; (refine (sha_Sum.calls _ _ ([] : List Int) t103 _ ?side3 ?side1 ?side2 A2.out).mono ?_); (case side1 => exact Kd.C_nil _ _); (case side2 => exact Nat.le_refl _); (case side3 => exact gw_step hG_ (by repeat (first | (with_reducible first | exact HB.out | apply below_alloc | apply pw_below_drewN | apply below_drew1) | exact HB.out))); rintro e w12 ⟨rfl, hb⟩; refine ⟨_, rfl, ?_⟩; have n0_ := Aside0.mk (below_step (by repeat (first | (with_reducible first | exact HB.out | apply below_alloc | apply pw_below_drewN | apply below_drew1) | exact HB.out)) hb); clear HB; have HB := n0_; clear n0_; (try clear hb); (try clear hb2); (try clear hk); (try clear hi)) | ((with_reducible refine gate_callee (f := 34) rfl ?_); refine goesL_ (some 8) rfl rfl Tryd.func34 (by kernel_rfl) rfl #[.string t103] rfl (by (try simp only [List.map_toArray, List.map_cons, List.map_nil]); first | done | rfl | (simp only [List.length_drop, List.length_take]; rfl)) ?_; (with_reducible refine (sha_Hex.calls k t103 t104 _ A3.out).mono ?_); rintro e w13 ⟨rfl, hb⟩; refine ⟨_, rfl, ?_⟩; have n0_ := Aside0.mk (below_step (by repeat (first | (with_reducible first | exact HB.out | apply below_alloc | apply pw_below_drewN | apply below_drew1) | exact HB.out)) hb); clear HB; have HB := n0_; clear n0_; (try clear hb); (try clear hb2); (try clear hk); (try clear hi)) | ((with_reducible refine gate_dst (N := 11) rfl ?_); (try (refine gate_guard (by rfl) ?_; dsimp only)); refine Kd.R_lit (Kd.int .u8) _ 5 ?hg (N := 11) ?hd (xs := ([97, 98, 99] : List Int)) (inner := [.int .u8 97, .int .u8 98, .int .u8 99]) (ok := fun _ => True) (okp := fun _ => True) ?hr ?hp (fun _ hk => hk) trivial (Below.refl _ _) (Nat.le_refl _) (by simp) ?_; (case hd => rfl); (case hg => rfl); (case hr => first | (go_simp; done) | (go_simp; rfl)); (case hp => exact (Reps.one (show Kd.M (Kd.int .u8) _ _ _ 97 [.int .u8 97] from rfl) (Reps.one (show Kd.M (Kd.int .u8) _ _ _ 98 [.int .u8 98] from rfl) (Reps.one (show Kd.M (Kd.int .u8) _ _ _ 99 [.int .u8 99] from rfl) (Reps.none _ _))))); intro v106 w14 ho15 hb hg_ hnew_; clear hg_ hnew_; (first | rw [← Ny105.out] at ho15 | (simp only [Int.reduceToNat] at ho15; rw [← Ny105.out] at ho15)); have n0_ := Aside0.mk (Kd.R_lower ho15 (below_size (by repeat (first | (with_reducible first | exact HB.out | apply below_alloc | apply pw_below_drewN | apply below_drew1) | exact HB.out)))); have n1_ := Aside0.mk (below_step (by repeat (first | (with_reducible first | exact HB.out | apply below_alloc | apply pw_below_drewN | apply below_drew1) | exact HB.out)) hb); clear HB; have HO107 := n0_; have HB := n1_; clear n0_ n1_; clear hb ho15; obtain ⟨Ao16, co16, eo16⟩ := Kd.R_slice HO107.out; subst eo16) | ((with_reducible refine gate_dst (N := 12) rfl ?_); (try (refine gate_guard (by rfl) ?_; dsimp only)); have HL107 := Aside0.mk (Kd.R_reads' HO107.out).2.1; refine HConv.conv_own (base := w.heap.size) (w0 := w) rfl rfl 22 5 (.tmp 11) rfl Tryd.underlying22 Tryd.underlying5 rfl _ (Kd.own_of_R HO107.out) (by rw [Ny105.out]; decide) (Kd.R_reads' HO107.out).2.2 HB.out ?_; intro wc_ hc_ hb_; have HC107 := Aside0.mk hc_; clear HO107; clear HB; have HB := Aside0.mk hb_; clear hc_ hb_) | (go_at_call 27; (with_reducible refine (sha_Sum.calls _ _ y105 t108 _ ?side3 ?side1 ?side2 A5.out).mono ?_); (case side1 => exact HC107.out); (case side2 => exact HL107.out); (case side3 => exact gw_step hG_ (by repeat (first | (with_reducible first | exact HB.out | apply below_alloc | apply pw_below_drewN | apply below_drew1) | exact HB.out))); rintro e w17 ⟨rfl, hb⟩; have n1_ := Aside0.mk (below_step (by repeat (first | (with_reducible first | exact HB.out | apply below_alloc | apply pw_below_drewN | apply below_drew1) | exact HB.out)) hb); clear HC107; clear HB; have HB := n1_; clear n1_; (try clear hb)) | (go_at_call 29; (with_reducible refine (sha_New.calls  t109 t110 t111 t112 t113 t114 t115 t116 t117 t120 _ A8.out).mono ?_); rintro e w18 ⟨v118, rfl, ho0, hb⟩; have n1_ := Aside0.mk (Kd.R_lower ho0 (below_size (by repeat (first | (with_reducible first | exact HB.out | apply below_alloc | apply pw_below_drewN | apply below_drew1) | exact HB.out)))); have n2_ := Aside0.mk (below_step (by repeat (first | (with_reducible first | exact HB.out | apply below_alloc | apply pw_below_drewN | apply below_drew1) | exact HB.out)) hb); clear HB; have HO119 := n1_; have HB := n2_; clear n1_ n2_; (try clear hb); (try clear hb2); (try clear hk); (try clear hi); (try clear ho0); obtain ⟨Ao19, co19, eo19⟩ := Kd.R_slice HO119.out; subst eo19) | (go_at_call 31; (with_reducible refine (sha_End.calls t109 t110 t111 t112 t113 t114 t115 t116 _ _ t117 t120 t121 _ ?side3 ?side1 ?side2 A9.out).mono ?_); (case side1 => repeat (first | exact (Kd.R_reads' HO119.out).2.2 | (with_reducible refine Kd.C_alloc ?_ _) | (with_reducible refine Kd.C_drewN ?_ _) | (with_reducible refine Kd.C_drew ?_))); (case side2 => exact (Kd.R_reads' HO119.out).2.1); (case side3 => exact gw_step hG_ (by repeat (first | (with_reducible first | exact HB.out | apply below_alloc | apply pw_below_drewN | apply below_drew1) | exact HB.out))); rintro e w20 ⟨rfl, hb⟩; have n1_ := Aside0.mk (Kd.R_below (by (with_reducible repeat (first | apply Kd.R_alloc | apply Kd.R_drewN | apply Kd.R_drew)); exact HO119.out) hb); have n2_ := Aside0.mk (below_step (by repeat (first | (with_reducible first | exact HB.out | apply below_alloc | apply pw_below_drewN | apply below_drew1) | exact HB.out)) hb); clear HO119; clear HB; have HO119 := n1_; have HB := n2_; clear n1_ n2_; (try clear hb); (try clear hb2); (try clear hk); (try clear hi)) | (go_at_call 27; (refine (sha_Sum.calls _ _ ([] : List Int) t122 _ ?side3 ?side1 ?side2 A10.out).mono ?_); (case side1 => exact Kd.C_nil _ _); (case side2 => exact Nat.le_refl _); (case side3 => exact gw_step hG_ (by repeat (first | (with_reducible first | exact HB.out | apply below_alloc | apply pw_below_drewN | apply below_drew1) | exact HB.out))); rintro e w21 ⟨rfl, hb⟩; have n1_ := Aside0.mk (Kd.R_below (by (with_reducible repeat (first | apply Kd.R_alloc | apply Kd.R_drewN | apply Kd.R_drew)); exact HO119.out) hb); have n2_ := Aside0.mk (below_step (by repeat (first | (with_reducible first | exact HB.out | apply below_alloc | apply pw_below_drewN | apply below_drew1) | exact HB.out)) hb); clear HO119; clear HB; have HO119 := n1_; have HB := n2_; clear n1_ n2_; (try clear hb); (try clear hb2); (try clear hk); (try clear hi)))
    go_ret
    exact ⟨by first | rfl | (simp [errW_none, errW_some] <;> rfl) | exact congrArg (fun b_ : Bool => Ending.returned (Value.bool b_)) HT2_.out | (simp [*, errW_none, errW_some] <;> rfl), by repeat (first | (with_reducible first | exact HB.out | apply below_alloc | apply pw_below_drewN | apply below_drew1) | exact HB.out)⟩
   ·rw [if_neg c7] at H
    have c7b0 : (t102 == 0) = false := beq_eq_false_iff_ne.mpr c7
    have c7b1 : (t102 != 0) = true := bne_iff_ne.mpr c7
    cases H
  ·rw [if_neg c6] at H
   have c6b0 : (t108.toList == t101.toList) = false := beq_eq_false_iff_ne.mpr c6
   have c6b1 : (t108.toList != t101.toList) = true := bne_iff_ne.mpr c6
   cases H
 ·rw [if_neg c4] at H
  have c4b0 : (t104.toList == ([101, 51, 98, 48, 99, 52, 52, 50, 57, 56, 102, 99, 49, 99, 49, 52, 57, 97, 102, 98, 102, 52, 99, 56, 57, 57, 54, 102, 98, 57, 50, 52, 50, 55, 97, 101, 52, 49, 101, 52, 54, 52, 57, 98, 57, 51, 52, 99, 97, 52, 57, 53, 57, 57, 49, 98, 55, 56, 53, 50, 98, 56, 53, 53] : List UInt8)) = false := beq_eq_false_iff_ne.mpr c4
  have c4b1 : (t104.toList != ([101, 51, 98, 48, 99, 52, 52, 50, 57, 56, 102, 99, 49, 99, 49, 52, 57, 97, 102, 98, 102, 52, 99, 56, 57, 57, 54, 102, 98, 57, 50, 52, 50, 55, 97, 101, 52, 49, 101, 52, 54, 52, 57, 98, 57, 51, 52, 99, 97, 52, 57, 53, 57, 57, 49, 98, 55, 56, 53, 50, 98, 56, 53, 53] : List UInt8)) = true := bne_iff_ne.mpr c4
  cases H
end Go.Proofs.YtjcfimnijpcjmaaDoor.PK

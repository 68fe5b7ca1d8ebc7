import Derived.Test.YtgcfhgkhokljcaaDoorProg
import Derived.Below
import Derived.Deep.Draws
import Derived.Deep.AppendLies
import Derived.Maps.AppendAt
import Derived.OwnWalk
import Derived.Laws.BytesArg
import Derived.Laws.MakeOwn
import Derived.Laws.OwnMore
import Derived.Deep.OwnRows
import Derived.Tactics
import Derived.Lib.ConvBytes
import Derived.Laws.Slices
import Derived.WalkKit
import Derived.KernelRfl
import Derived.RowKit3
import Derived.Deep.LoopGhost
import Derived.Deep.QuietTactic
import Derived.BigQuiet
import Derived.WideLaws
import Derived.Deep.DeepCutAuto
import Derived.Deep.CutBlock
import Derived.Deep.RegionHeld3
import Derived.Laws.Rows
import Derived.Lib.AppendStr
import Derived.ArgAppend
import Derived.Laws.IdiomCopy
import Derived.OrdersHeld
import Derived.Laws.BitsLemmas
import Derived.RowKit
import Derived.WalkMore
import Derived.Test.YtgcfhgkhokljcaaDoorZaHShaD
import Derived.Test.YtgcfhgkhokljcaaDoorZaPS
import Derived.Test.YtgcfhgkhokljcaaDoorZaPR
import Derived.Test.YtgcfhgkhokljcaaDoorZaPT
import Derived.Test.YtgcfhgkhokljcaaDoorZaPB
import Derived.Test.YtgcfhgkhokljcaaDoorZaHNode
import Derived.Test.YtgcfhgkhokljcaaDoorZaPC
import Derived.Test.YtgcfhgkhokljcaaDoorZaPK
import Derived.Test.YtgcfhgkhokljcaaDoorZaWWords
import Derived.Test.YtgcfhgkhokljcaaDoorZaWLast
import Derived.Test.YtgcfhgkhokljcaaDoorZaWTab
import Derived.Test.YtgcfhgkhokljcaaDoorZaWApart
import Derived.Test.YtgcfhgkhokljcaaDoorZaWFoot
import Derived.Test.YtgcfhgkhokljcaaDoorZaWKept
import Derived.Test.YtgcfhgkhokljcaaDoorZaWShare
import Derived.Test.YtgcfhgkhokljcaaDoorZaWN
import Derived.Laws.StructEq
import Derived.Test.YtgcfhgkhokljcaaDoorZaWRepsOne
import Derived.Test.YtgcfhgkhokljcaaDoorZaWInv
import Derived.Test.YtgcfhgkhokljcaaDoorZaWGuard
import Derived.Test.YtgcfhgkhokljcaaDoorZaWNEv
import Derived.Test.YtgcfhgkhokljcaaDoorZaWMore
-- PRINTED by print.py (a twelfth state) out of the translation. Not trusted: Lean checks it.
namespace Go.Proofs.YtgcfhgkhokljcaaDoor.PTreeRoots
open Go.RowKit  Go.Proofs.YtgcfhgkhokljcaaDoor.HSha Go.Proofs.YtgcfhgkhokljcaaDoor.PS Go.Proofs.YtgcfhgkhokljcaaDoor.PR Go.Proofs.YtgcfhgkhokljcaaDoor.PT Go.Proofs.YtgcfhgkhokljcaaDoor.PB Go.Proofs.YtgcfhgkhokljcaaDoor.HNode Go.Proofs.YtgcfhgkhokljcaaDoor.PC Go.Proofs.YtgcfhgkhokljcaaDoor.PK Go.Proofs.YtgcfhgkhokljcaaDoorW.PrintWords Go.Proofs.YtgcfhgkhokljcaaDoorW.PrintLast Go.Proofs.YtgcfhgkhokljcaaDoorW.PrintMore
attribute [local go_sem] max2_int min2_int max_two min_two max_three min_three max_four min_four   -- for this text's walks alone
set_option linter.unusedVariables false
set_option linter.unusedSimpArgs false
def errW : Option Int → Value
 | none => .nilIface
 | some c => .iface 0 (.int .i64 c)
theorem errW_none : errW none = .nilIface := rfl
theorem errW_some (c : Int) : errW (some c) = .iface 0 (.int .i64 c) := rfl
theorem info9 : (Tryd.prog.info? 9).map (fun i => (i.zero, i.size, i.bytes)) = some (some (.string ⟨#[]⟩), 1, 16) := by kernel_rfl
-- the values' own types
end Go.Proofs.YtgcfhgkhokljcaaDoor.PTreeRoots
namespace Go.Proofs.YtgcfhgkhokljcaaDoor.PTreeRoots
open Go.RowKit  Go.Proofs.YtgcfhgkhokljcaaDoor.HSha Go.Proofs.YtgcfhgkhokljcaaDoor.PS Go.Proofs.YtgcfhgkhokljcaaDoor.PR Go.Proofs.YtgcfhgkhokljcaaDoor.PT Go.Proofs.YtgcfhgkhokljcaaDoor.PB Go.Proofs.YtgcfhgkhokljcaaDoor.HNode Go.Proofs.YtgcfhgkhokljcaaDoor.PC Go.Proofs.YtgcfhgkhokljcaaDoor.PK Go.Proofs.YtgcfhgkhokljcaaDoorW.PrintWords Go.Proofs.YtgcfhgkhokljcaaDoorW.PrintLast Go.Proofs.YtgcfhgkhokljcaaDoorW.PrintMore
attribute [local go_sem] max2_int min2_int max_two min_two max_three min_three max_four min_four   -- for this text's walks alone
set_option linter.unusedVariables false
set_option linter.unusedSimpArgs false
/-! ### rubricklaw06_TreeRoots: function 7 -/
mutual
def rubricklaw06_TreeRoots.j0 : Nat → List ByteArray → Int → Int → ByteArray → Int → ByteArray → Int → Bool → Option (Bool)
 | 0, _, _, _, _, _, _, _, _ => none
 | k + 1, x0, x1, x2, x9, x10, x11, x12, x53 => if x53 = true then (if x11.toList = ([] : List UInt8) then (if x12 = 1 then (rubricklaw06_TreeRoots.j1 k x0 x9 x10) else (some false)) else (some false)) else (if 0 ≤ x1 then (if x1 ≤ x2 then (if x2 ≤ (x0.length : Int) then ((rubrickref06_Root.f k ((x0.take (x2 : Int).toNat).drop (x1 : Int).toNat)).bind fun t112 => (if x11.toList = t112.toList then (if x12 = 0 then (rubricklaw06_TreeRoots.j1 k x0 x9 x10) else (some false)) else (some false))) else (none)) else (none)) else (none))
def rubricklaw06_TreeRoots.j1 : Nat → List ByteArray → ByteArray → Int → Option (Bool)
 | 0, _, _, _ => none
 | k + 1, x0, x9, x10 => (rubrickref06_Right.f k x0).bind fun t113 => (if t113 = true then ((rubrickref06_Root.f k x0).bind fun t114 => (if x9.toList = t114.toList then (if x10 = 0 then ((rubricklaw06_knows.f k).bind fun t115 => (some t115)) else (some false)) else (some false))) else (if x9.toList = ([] : List UInt8) then (if x10 = 1 then ((rubricklaw06_knows.f k).bind fun t116 => (some t116)) else (some false)) else (some false)))
end
def rubricklaw06_TreeRoots.f (k : Nat) (l0 : List ByteArray) (a1 : Int) (a2 : Int) (a3 : Int) : Option (Bool) := (rubricklaw06_Great.f k l0).bind fun t101 => (if t101 = true then ((rubricklaw06_knows.f k).bind fun t102 => (some t102)) else ((tree_Root.f k l0).bind fun bt103 => ((tree_Range.f k l0 a1 a2).bind fun bt105 => ((tree_Split.f k a3).bind fun t107 => ((rubrickref06_Split.f k a3).bind fun t108 => (if t107 = t108 then (if a1 < 0 then (rubricklaw06_TreeRoots.j0 k l0 a1 a2 bt103.1 bt103.2 bt105.1 bt105.2 true) else (if a2 < a1 then (rubricklaw06_TreeRoots.j0 k l0 a1 a2 bt103.1 bt103.2 bt105.1 bt105.2 true) else (if a2 > (l0.length : Int) then (rubricklaw06_TreeRoots.j0 k l0 a1 a2 bt103.1 bt103.2 bt105.1 bt105.2 true) else (if 0 ≤ a1 then (if a1 ≤ a2 then (if a2 ≤ (l0.length : Int) then ((rubrickref06_Right.f k ((l0.take (a2 : Int).toNat).drop (a1 : Int).toNat)).bind fun t110 => (rubricklaw06_TreeRoots.j0 k l0 a1 a2 bt103.1 bt103.2 bt105.1 bt105.2 (!t110))) else (none)) else (none)) else (none))))) else (some false)))))))
set_option maxHeartbeats 8000000 in
set_option maxRecDepth 100000 in
theorem rubricklaw06_TreeRoots.calls (k : Nat) (A0 : Option Addr) (c0 : Nat) (l0 : List ByteArray) (a1 : Int) (a2 : Int) (a3 : Int) (r : Bool) (w : World) (hG_ : Aside0 (GW w)) (hr0 : Kd.C Kd.string w A0 l0.length l0) (hc0 : l0.length ≤ c0) (h : rubricklaw06_TreeRoots.f k l0 a1 a2 a3 = some r) (hT_ : r = true) :
  Calls Tryd.prog 7 #[.slice A0 l0.length c0, .int .i64 a1, .int .i64 a2, .int .i64 a3] w fun e w' => e = .returned (.bool r) ∧ Below w.heap.size w w' := by
 have HR0 := Aside0.mk hr0
 have HC0 := Aside0.mk hc0
 clear hr0 hc0
 have HB := Aside0.mk (Below.refl w.heap.size w)
 subst hT_
 have H : ((rubricklaw06_Great.f k l0).bind fun t101 => (if t101 = true then ((rubricklaw06_knows.f k).bind fun t102 => (some t102)) else ((tree_Root.f k l0).bind fun bt103 => ((tree_Range.f k l0 a1 a2).bind fun bt105 => ((tree_Split.f k a3).bind fun t107 => ((rubrickref06_Split.f k a3).bind fun t108 => (if t107 = t108 then (if a1 < 0 then (rubricklaw06_TreeRoots.j0 k l0 a1 a2 bt103.1 bt103.2 bt105.1 bt105.2 true) else (if a2 < a1 then (rubricklaw06_TreeRoots.j0 k l0 a1 a2 bt103.1 bt103.2 bt105.1 bt105.2 true) else (if a2 > (l0.length : Int) then (rubricklaw06_TreeRoots.j0 k l0 a1 a2 bt103.1 bt103.2 bt105.1 bt105.2 true) else (if 0 ≤ a1 then (if a1 ≤ a2 then (if a2 ≤ (l0.length : Int) then ((rubrickref06_Right.f k ((l0.take (a2 : Int).toNat).drop (a1 : Int).toNat)).bind fun t110 => (rubricklaw06_TreeRoots.j0 k l0 a1 a2 bt103.1 bt103.2 bt105.1 bt105.2 (!t110))) else (none)) else (none)) else (none))))) else (some false)))))))) = some true := h
 clear h
 replace H := Option.bind_eq_some_iff.mp H
 obtain ⟨t101, A50, H⟩ := H
 replace H : (if t101 = true then ((rubricklaw06_knows.f k).bind fun t102 => (some t102)) else ((tree_Root.f k l0).bind fun bt103 => ((tree_Range.f k l0 a1 a2).bind fun bt105 => ((tree_Split.f k a3).bind fun t107 => ((rubrickref06_Split.f k a3).bind fun t108 => (if t107 = t108 then (if a1 < 0 then (rubricklaw06_TreeRoots.j0 k l0 a1 a2 bt103.1 bt103.2 bt105.1 bt105.2 true) else (if a2 < a1 then (rubricklaw06_TreeRoots.j0 k l0 a1 a2 bt103.1 bt103.2 bt105.1 bt105.2 true) else (if a2 > (l0.length : Int) then (rubricklaw06_TreeRoots.j0 k l0 a1 a2 bt103.1 bt103.2 bt105.1 bt105.2 true) else (if 0 ≤ a1 then (if a1 ≤ a2 then (if a2 ≤ (l0.length : Int) then ((rubrickref06_Right.f k ((l0.take (a2 : Int).toNat).drop (a1 : Int).toNat)).bind fun t110 => (rubricklaw06_TreeRoots.j0 k l0 a1 a2 bt103.1 bt103.2 bt105.1 bt105.2 (!t110))) else (none)) else (none)) else (none))))) else (some false))))))) = some true := H
 have A5 := Aside0.mk A50
 clear A50
 by_cases c6 : t101 = true
 ·subst c6
  have H1 : ((rubricklaw06_knows.f k).bind fun t102 => (some t102)) = some true := by rw [if_pos rfl] at H; exact H
  clear H
  have H := H1
  clear H1
  replace H := Option.bind_eq_some_iff.mp H
  obtain ⟨t102, A70, H⟩ := H
  replace H : (some t102) = some true := H
  have A7 := Aside0.mk A70
  clear A70
  have HT2_ := Aside0.mk (Option.some.inj H)
  clear H
  go_enter Tryd.func7, Tryd.ntmps7
  go_wp2_with (first | ((with_reducible refine gate_callee (f := 11) rfl ?_); refine goesL_ (some 14) rfl rfl Tryd.func11 (by kernel_rfl) rfl #[.slice A0 l0.length c0] rfl (by (try simp only [List.map_toArray, List.map_cons, List.map_nil]); first | done | rfl | (simp only [List.length_drop, List.length_take]; rfl)) ?_; (with_reducible refine (rubricklaw06_Great.calls k _ _ l0 true _ ?side1 ?side2 A5.out).mono ?_); (case side1 => repeat (first | exact HR0.out | (with_reducible refine Kd.C_alloc ?_ _) | (with_reducible refine Kd.C_drewN ?_ _) | (with_reducible refine Kd.C_drew ?_))); (case side2 => exact HC0.out); rintro e w' ⟨rfl, ⟨nd, rfl⟩⟩; refine ⟨_, rfl, ?_⟩) | ((with_reducible refine gate_callee (f := 12) rfl ?_); refine goesL_ (some 15) rfl rfl Tryd.func12 (by kernel_rfl) rfl #[] rfl (by (try simp only [List.map_toArray, List.map_cons, List.map_nil]); first | done | rfl | (simp only [List.length_drop, List.length_take]; rfl)) ?_; (with_reducible refine (rubricklaw06_knows.calls k  t102 _ ?side1 A7.out).mono ?_); (case side1 => exact gw_step hG_ (by repeat (first | (with_reducible first | exact HB.out | apply below_alloc | apply pw_below_drewN | apply below_drew1) | exact HB.out))); rintro e w8 ⟨rfl, hb⟩; refine ⟨_, rfl, ?_⟩; have n0_ := Aside0.mk (below_step (by repeat (first | (with_reducible first | exact HB.out | apply below_alloc | apply pw_below_drewN | apply below_drew1) | exact HB.out)) hb); clear HB; have HB := n0_; clear n0_; (try clear hb); (try clear hb2); (try clear hk); (try clear hi)))
  go_ret
  exact ⟨by first | rfl | (simp [errW_none, errW_some] <;> rfl) | exact congrArg (fun b_ : Bool => Ending.returned (Value.bool b_)) HT2_.out | (simp [*, errW_none, errW_some] <;> rfl), by repeat (first | (with_reducible first | exact HB.out | apply below_alloc | apply pw_below_drewN | apply below_drew1) | exact HB.out)⟩
 ·replace c6 := Bool.eq_false_iff.mpr c6
  subst c6
  have H1 : ((tree_Root.f k l0).bind fun bt103 => ((tree_Range.f k l0 a1 a2).bind fun bt105 => ((tree_Split.f k a3).bind fun t107 => ((rubrickref06_Split.f k a3).bind fun t108 => (if t107 = t108 then (if a1 < 0 then (rubricklaw06_TreeRoots.j0 k l0 a1 a2 bt103.1 bt103.2 bt105.1 bt105.2 true) else (if a2 < a1 then (rubricklaw06_TreeRoots.j0 k l0 a1 a2 bt103.1 bt103.2 bt105.1 bt105.2 true) else (if a2 > (l0.length : Int) then (rubricklaw06_TreeRoots.j0 k l0 a1 a2 bt103.1 bt103.2 bt105.1 bt105.2 true) else (if 0 ≤ a1 then (if a1 ≤ a2 then (if a2 ≤ (l0.length : Int) then ((rubrickref06_Right.f k ((l0.take (a2 : Int).toNat).drop (a1 : Int).toNat)).bind fun t110 => (rubricklaw06_TreeRoots.j0 k l0 a1 a2 bt103.1 bt103.2 bt105.1 bt105.2 (!t110))) else (none)) else (none)) else (none))))) else (some false)))))) = some true := by rw [if_neg (show ¬ (false = true) by decide)] at H; exact H
  clear H
  have H := H1
  clear H1
  replace H := Option.bind_eq_some_iff.mp H
  obtain ⟨⟨t103, t104⟩, A90, H⟩ := H
  replace H : ((tree_Range.f k l0 a1 a2).bind fun bt105 => ((tree_Split.f k a3).bind fun t107 => ((rubrickref06_Split.f k a3).bind fun t108 => (if t107 = t108 then (if a1 < 0 then (rubricklaw06_TreeRoots.j0 k l0 a1 a2 t103 t104 bt105.1 bt105.2 true) else (if a2 < a1 then (rubricklaw06_TreeRoots.j0 k l0 a1 a2 t103 t104 bt105.1 bt105.2 true) else (if a2 > (l0.length : Int) then (rubricklaw06_TreeRoots.j0 k l0 a1 a2 t103 t104 bt105.1 bt105.2 true) else (if 0 ≤ a1 then (if a1 ≤ a2 then (if a2 ≤ (l0.length : Int) then ((rubrickref06_Right.f k ((l0.take (a2 : Int).toNat).drop (a1 : Int).toNat)).bind fun t110 => (rubricklaw06_TreeRoots.j0 k l0 a1 a2 t103 t104 bt105.1 bt105.2 (!t110))) else (none)) else (none)) else (none))))) else (some false))))) = some true := H
  have A9 := Aside0.mk A90
  clear A90
  replace H := Option.bind_eq_some_iff.mp H
  obtain ⟨⟨t105, t106⟩, A100, H⟩ := H
  replace H : ((tree_Split.f k a3).bind fun t107 => ((rubrickref06_Split.f k a3).bind fun t108 => (if t107 = t108 then (if a1 < 0 then (rubricklaw06_TreeRoots.j0 k l0 a1 a2 t103 t104 t105 t106 true) else (if a2 < a1 then (rubricklaw06_TreeRoots.j0 k l0 a1 a2 t103 t104 t105 t106 true) else (if a2 > (l0.length : Int) then (rubricklaw06_TreeRoots.j0 k l0 a1 a2 t103 t104 t105 t106 true) else (if 0 ≤ a1 then (if a1 ≤ a2 then (if a2 ≤ (l0.length : Int) then ((rubrickref06_Right.f k ((l0.take (a2 : Int).toNat).drop (a1 : Int).toNat)).bind fun t110 => (rubricklaw06_TreeRoots.j0 k l0 a1 a2 t103 t104 t105 t106 (!t110))) else (none)) else (none)) else (none))))) else (some false)))) = some true := H
  have A10 := Aside0.mk A100
  clear A100
  replace H := Option.bind_eq_some_iff.mp H
  obtain ⟨t107, A110, H⟩ := H
  replace H : ((rubrickref06_Split.f k a3).bind fun t108 => (if t107 = t108 then (if a1 < 0 then (rubricklaw06_TreeRoots.j0 k l0 a1 a2 t103 t104 t105 t106 true) else (if a2 < a1 then (rubricklaw06_TreeRoots.j0 k l0 a1 a2 t103 t104 t105 t106 true) else (if a2 > (l0.length : Int) then (rubricklaw06_TreeRoots.j0 k l0 a1 a2 t103 t104 t105 t106 true) else (if 0 ≤ a1 then (if a1 ≤ a2 then (if a2 ≤ (l0.length : Int) then ((rubrickref06_Right.f k ((l0.take (a2 : Int).toNat).drop (a1 : Int).toNat)).bind fun t110 => (rubricklaw06_TreeRoots.j0 k l0 a1 a2 t103 t104 t105 t106 (!t110))) else (none)) else (none)) else (none))))) else (some false))) = some true := H
  have A11 := Aside0.mk A110
  clear A110
  replace H := Option.bind_eq_some_iff.mp H
  obtain ⟨t108, A120, H⟩ := H
  replace H : (if t107 = t108 then (if a1 < 0 then (rubricklaw06_TreeRoots.j0 k l0 a1 a2 t103 t104 t105 t106 true) else (if a2 < a1 then (rubricklaw06_TreeRoots.j0 k l0 a1 a2 t103 t104 t105 t106 true) else (if a2 > (l0.length : Int) then (rubricklaw06_TreeRoots.j0 k l0 a1 a2 t103 t104 t105 t106 true) else (if 0 ≤ a1 then (if a1 ≤ a2 then (if a2 ≤ (l0.length : Int) then ((rubrickref06_Right.f k ((l0.take (a2 : Int).toNat).drop (a1 : Int).toNat)).bind fun t110 => (rubricklaw06_TreeRoots.j0 k l0 a1 a2 t103 t104 t105 t106 (!t110))) else (none)) else (none)) else (none))))) else (some false)) = some true := H
  have A12 := Aside0.mk A120
  clear A120
  by_cases c13 : t107 = t108
  ·rw [if_pos c13] at H
   have c13b0 : (t107 == t108) = true := beq_iff_eq.mpr c13
   have c13b1 : (t107 != t108) = false := bne_eq_false_iff_eq.mpr c13
   clear c13
   have HC14 := Aside0.mk H
   clear H
   go_enter Tryd.func7, Tryd.ntmps7
   go_upto_region 7 with (first | ((with_reducible refine gate_callee (f := 11) rfl ?_); refine goesL_ (some 14) rfl rfl Tryd.func11 (by kernel_rfl) rfl #[.slice A0 l0.length c0] rfl (by (try simp only [List.map_toArray, List.map_cons, List.map_nil]); first | done | rfl | (simp only [List.length_drop, List.length_take]; rfl)) ?_; (with_reducible refine (rubricklaw06_Great.calls k _ _ l0 false _ ?side1 ?side2 A5.out).mono ?_); (case side1 => repeat (first | exact HR0.out | (with_reducible refine Kd.C_alloc ?_ _) | (with_reducible refine Kd.C_drewN ?_ _) | (with_reducible refine Kd.C_drew ?_))); (case side2 => exact HC0.out); rintro e w' ⟨rfl, ⟨nd, rfl⟩⟩; refine ⟨_, rfl, ?_⟩) | ((with_reducible refine gate_callee (f := 21) rfl ?_); refine goesL_ (some 18) rfl rfl Tryd.func21 (by kernel_rfl) rfl #[.slice A0 l0.length c0] rfl (by (try simp only [List.map_toArray, List.map_cons, List.map_nil]); first | done | rfl | (simp only [List.length_drop, List.length_take]; rfl)) ?_; (with_reducible refine (tree_Root.calls k _ _ l0 t103 t104 _ ?side3 ?side1 ?side2 A9.out).mono ?_); (case side1 => repeat (first | exact HR0.out | (with_reducible refine Kd.C_alloc ?_ _) | (with_reducible refine Kd.C_drewN ?_ _) | (with_reducible refine Kd.C_drew ?_))); (case side2 => exact HC0.out); (case side3 => exact gw_step hG_ (by repeat (first | (with_reducible first | exact HB.out | apply below_alloc | apply pw_below_drewN | apply below_drew1) | exact HB.out))); rintro e w15 ⟨rfl, hb⟩; refine ⟨_, rfl, ?_⟩; have n0_ := Aside0.mk (below_step (by repeat (first | (with_reducible first | exact HB.out | apply below_alloc | apply pw_below_drewN | apply below_drew1) | exact HB.out)) hb); clear HB; have HB := n0_; clear n0_; (try clear hb); (try clear hb2); (try clear hk); (try clear hi)) | ((with_reducible refine gate_callee (f := 24) rfl ?_); refine goesL_ (some 25) rfl rfl Tryd.func24 (by kernel_rfl) rfl #[.slice A0 l0.length c0, .int .i64 a1, .int .i64 a2] rfl (by (try simp only [List.map_toArray, List.map_cons, List.map_nil]); first | done | rfl | (simp only [List.length_drop, List.length_take]; rfl)) ?_; (with_reducible refine (tree_Range.calls k _ _ l0 a1 a2 t105 t106 _ ?side3 ?side1 ?side2 A10.out).mono ?_); (case side1 => repeat (first | exact (Kd.C_below HR0.out HB.out) | (with_reducible refine Kd.C_alloc ?_ _) | (with_reducible refine Kd.C_drewN ?_ _) | (with_reducible refine Kd.C_drew ?_))); (case side2 => exact HC0.out); (case side3 => exact gw_step hG_ (by repeat (first | (with_reducible first | exact HB.out | apply below_alloc | apply pw_below_drewN | apply below_drew1) | exact HB.out))); rintro e w16 ⟨rfl, hb⟩; refine ⟨_, rfl, ?_⟩; have n0_ := Aside0.mk (below_step (by repeat (first | (with_reducible first | exact HB.out | apply below_alloc | apply pw_below_drewN | apply below_drew1) | exact HB.out)) hb); clear HB; have HB := n0_; clear n0_; (try clear hb); (try clear hb2); (try clear hk); (try clear hi)) | ((with_reducible refine gate_callee (f := 25) rfl ?_); refine goesL_ (some 29) rfl rfl Tryd.func25 (by kernel_rfl) rfl #[.int .i64 a3] rfl (by (try simp only [List.map_toArray, List.map_cons, List.map_nil]); first | done | rfl | (simp only [List.length_drop, List.length_take]; rfl)) ?_; (with_reducible refine (tree_Split.calls k a3 t107 _ A11.out).mono ?_); rintro e w' ⟨rfl, ⟨nd, rfl⟩⟩; refine ⟨_, rfl, ?_⟩) | ((with_reducible refine gate_callee (f := 26) rfl ?_); refine goesL_ (some 31) rfl rfl Tryd.func26 (by kernel_rfl) rfl #[.int .i64 a3] rfl (by (try simp only [List.map_toArray, List.map_cons, List.map_nil]); first | done | rfl | (simp only [List.length_drop, List.length_take]; rfl)) ?_; (with_reducible refine (rubrickref06_Split.calls k a3 t108 _ A12.out).mono ?_); rintro e w' ⟨rfl, ⟨nd, rfl⟩⟩; refine ⟨_, rfl, ?_⟩))
   (try simp only [Act.put, List.setIfInBounds_toArray, List.set_cons_zero, List.set_cons_succ])
   go_cut [53] (fun v53 wc => ∃ (kq : Nat) (x53_13 : Bool), v53 = .bool x53_13 ∧ Aside0 (rubricklaw06_TreeRoots.j0 kq l0 a1 a2 t103 t104 t105 t106 x53_13 = some true) ∧ Aside0 (kq ≤ k) ∧ Aside0 (Below w.heap.size w wc))
   case first =>
    have H := HC14.out
    clear HC14
    by_cases c17 : a1 < 0
    ·rw [if_pos c17] at H
     have c17b0 : decide (a1 < 0) = true := decide_eq_true c17
     clear c17
     (first | rw [c17b0] | (simp only [i64_w, i32_w]; rw [c17b0]) | skip)
     have H' := Aside0.mk H
     clear H
     go_wp2
     go_meet
     case rel => exact ⟨_, (true), (by first | rfl | (simp; done) | (simp [*]; done)), H', ⟨by first | omega | exact Nat.le_refl _⟩, ⟨by repeat (first | (with_reducible first | exact HB.out | apply below_alloc | apply pw_below_drewN | apply below_drew1) | exact HB.out)⟩⟩
    ·rw [if_neg c17] at H
     have c17b0 : decide (a1 < 0) = false := decide_eq_false c17
     clear c17
     (first | rw [c17b0] | (simp only [i64_w, i32_w]; rw [c17b0]) | skip)
     by_cases c18 : a2 < a1
     ·rw [if_pos c18] at H
      have c18b0 : decide (a2 < a1) = true := decide_eq_true c18
      clear c18
      have H' := Aside0.mk H
      clear H
      go_wp2
      go_meet
      case rel => exact ⟨_, (true), (by first | rfl | (simp; done) | (simp [*]; done)), H', ⟨by first | omega | exact Nat.le_refl _⟩, ⟨by repeat (first | (with_reducible first | exact HB.out | apply below_alloc | apply pw_below_drewN | apply below_drew1) | exact HB.out)⟩⟩
     ·rw [if_neg c18] at H
      have c18b0 : decide (a2 < a1) = false := decide_eq_false c18
      clear c18
      by_cases c19 : a2 > (l0.length : Int)
      ·rw [if_pos c19] at H
       have c19b0 : decide ((l0.length : Int) < a2) = true := decide_eq_true c19
       clear c19
       have H' := Aside0.mk H
       clear H
       go_wp2
       go_meet
       case rel => exact ⟨_, (true), (by first | rfl | (simp; done) | (simp [*]; done)), H', ⟨by first | omega | exact Nat.le_refl _⟩, ⟨by repeat (first | (with_reducible first | exact HB.out | apply below_alloc | apply pw_below_drewN | apply below_drew1) | exact HB.out)⟩⟩
      ·rw [if_neg c19] at H
       have c19b0 : decide ((l0.length : Int) < a2) = false := decide_eq_false c19
       clear c19
       by_cases c20 : 0 ≤ a1
       ·rw [if_pos c20] at H
        have c20b0 := eq_true c20
        have c20b1 : decide (0 ≤ a1) = true := decide_eq_true c20
        clear c20
        by_cases c21 : a1 ≤ a2
        ·rw [if_pos c21] at H
         have c21b0 := eq_true c21
         have c21b1 : decide (a1 ≤ a2) = true := decide_eq_true c21
         clear c21
         by_cases c22 : a2 ≤ (l0.length : Int)
         ·rw [if_pos c22] at H
          have c22b0 := eq_true c22
          have c22b1 : decide (a2 ≤ (l0.length : Int)) = true := decide_eq_true c22
          clear c22
          replace H := Option.bind_eq_some_iff.mp H
          obtain ⟨t110, A230, H⟩ := H
          replace H : (rubricklaw06_TreeRoots.j0 k l0 a1 a2 t103 t104 t105 t106 (!t110)) = some true := H
          have A23 := Aside0.mk A230
          clear A230
          have H' := Aside0.mk H
          clear H
          obtain ⟨i024, hi024, _, hsz24, _⟩ := info_parts info9
          obtain ⟨A24, hcut24, hA24, hC24⟩ := print_mid_of (P := Tryd.prog) Value.string (⟨#[]⟩ : ByteArray) 22 9 .i64 .i64 Tryd.underlying22 hi024 hsz24 A0 c0 l0 a1 a2 (of_decide_eq_true (by first | (with_reducible assumption) | assumption)) (by first | omega | exact of_decide_eq_true (by first | (with_reducible assumption) | assumption)) (of_decide_eq_true (by first | (with_reducible assumption) | assumption)) HC0.out
          have hmid24 := Aside0.mk (show ((l0.take (a2 : Int).toNat).drop (a1 : Int).toNat).length = a2.toNat - a1.toNat from by have h_ : (a2 : Int) ≤ (l0.length : Int) := of_decide_eq_true (by first | (with_reducible assumption) | assumption); rw [List.length_drop, List.length_take]; omega)
          have HR109 := Aside0.mk (Kd.C_of_reads (h1 := fun _ => rfl) (hA24 _ (Kd.reads_of_C HR0.out)))
          have HC109 := Aside0.mk hC24
          clear hA24 hC24 hi024 hsz24
          go_wp2_with (first | (go_at_call 14; (try rw [← hmid24.out]); (with_reducible refine (rubrickref06_Right.calls k _ _ ((l0.take (a2 : Int).toNat).drop (a1 : Int).toNat) t110 _ ?side1 ?side2 A23.out).mono ?_); (case side1 => repeat (first | exact (Kd.C_below HR109.out HB.out) | (with_reducible refine Kd.C_alloc ?_ _) | (with_reducible refine Kd.C_drewN ?_ _) | (with_reducible refine Kd.C_drew ?_))); (case side2 => exact HC109.out); rintro e w' ⟨rfl, ⟨nd, rfl⟩⟩))
          go_meet
          case rel => exact ⟨_, (!t110), (by first | rfl | (simp; done) | (simp [*]; done)), H', ⟨by first | omega | exact Nat.le_refl _⟩, ⟨by repeat (first | (with_reducible first | exact HB.out | apply below_alloc | apply pw_below_drewN | apply below_drew1) | exact HB.out)⟩⟩
         ·rw [if_neg c22] at H
          exact absurd H (by simp)
        ·rw [if_neg c21] at H
         exact absurd H (by simp)
       ·rw [if_neg c20] at H
        exact absurd H (by simp)
   case rest =>
    clear HC14
    try clear c1
    try clear c2
    try clear p2
    try clear c6
    try clear c7
    try clear c11
    try clear c12
    try clear c13
    try clear c13b0
    try clear c13b1
    try clear c17
    try clear c17b0
    try clear c18
    try clear c18b0
    try clear c19
    try clear c19b0
    try clear c20
    try clear c20b0
    try clear c20b1
    try clear c21
    try clear c21b0
    try clear c21b1
    try clear c22
    try clear c22b0
    try clear c22b1
    try clear c24
    obtain ⟨kq, x53_13, rfl, HA, HJ13, HB⟩ := hcut
    cases kq with
    | zero => exact absurd HA.out (by simp [rubricklaw06_TreeRoots.j0])
    | succ kj13 =>
     have H := HA.out
     clear HA
     simp only [rubricklaw06_TreeRoots.j0] at H
     have HC25 := Aside0.mk H
     clear H
     go_upto_if 53 with (fail)
     go_cut [] (fun wc => ∃ (kq : Nat), Aside0 (rubricklaw06_TreeRoots.j1 kq l0 t103 t104 = some true) ∧ Aside0 (kq ≤ kj13) ∧ Aside0 (Below w.heap.size w wc))
     case first =>
      have H := HC25.out
      clear HC25
      by_cases c26 : x53_13 = true
      ·subst c26
       have H1 : (if t105.toList = ([] : List UInt8) then (if t106 = 1 then (rubricklaw06_TreeRoots.j1 kj13 l0 t103 t104) else (some false)) else (some false)) = some true := by rw [if_pos rfl] at H; exact H
       clear H
       have H := H1
       clear H1
       by_cases c27 : t105.toList = ([] : List UInt8)
       ·rw [if_pos c27] at H
        have c27b0 : (t105.toList == ([] : List UInt8)) = true := beq_iff_eq.mpr c27
        have c27b1 : (t105.toList != ([] : List UInt8)) = false := bne_eq_false_iff_eq.mpr c27
        clear c27
        (first | rw [c27b0] | (simp only [i64_w, i32_w]; rw [c27b0]) | skip)
        by_cases c28 : t106 = 1
        ·rw [if_pos c28] at H
         have c28b0 : (t106 == 1) = true := beq_iff_eq.mpr c28
         have c28b1 : (t106 != 1) = false := bne_eq_false_iff_eq.mpr c28
         clear c28
         have H' := Aside0.mk H
         clear H
         go_wp2
         go_meet
         case rel => exact ⟨_, H', ⟨by have := HJ13.out; first | omega | exact Nat.le_refl _⟩, ⟨by repeat (first | (with_reducible first | exact HB.out | apply below_alloc | apply pw_below_drewN | apply below_drew1) | exact HB.out)⟩⟩
        ·rw [if_neg c28] at H
         have c28b0 : (t106 == 1) = false := beq_eq_false_iff_ne.mpr c28
         have c28b1 : (t106 != 1) = true := bne_iff_ne.mpr c28
         cases H
       ·rw [if_neg c27] at H
        have c27b0 : (t105.toList == ([] : List UInt8)) = false := beq_eq_false_iff_ne.mpr c27
        have c27b1 : (t105.toList != ([] : List UInt8)) = true := bne_iff_ne.mpr c27
        (first | rw [c27b0] | (simp only [i64_w, i32_w]; rw [c27b0]) | skip)
        cases H
      ·replace c26 := Bool.eq_false_iff.mpr c26
       subst c26
       have H1 : (if 0 ≤ a1 then (if a1 ≤ a2 then (if a2 ≤ (l0.length : Int) then ((rubrickref06_Root.f kj13 ((l0.take (a2 : Int).toNat).drop (a1 : Int).toNat)).bind fun t112 => (if t105.toList = t112.toList then (if t106 = 0 then (rubricklaw06_TreeRoots.j1 kj13 l0 t103 t104) else (some false)) else (some false))) else (none)) else (none)) else (none)) = some true := by rw [if_neg (show ¬ (false = true) by decide)] at H; exact H
       clear H
       have H := H1
       clear H1
       by_cases c29 : 0 ≤ a1
       ·rw [if_pos c29] at H
        have c29b0 := eq_true c29
        have c29b1 : decide (0 ≤ a1) = true := decide_eq_true c29
        clear c29
        by_cases c30 : a1 ≤ a2
        ·rw [if_pos c30] at H
         have c30b0 := eq_true c30
         have c30b1 : decide (a1 ≤ a2) = true := decide_eq_true c30
         clear c30
         by_cases c31 : a2 ≤ (l0.length : Int)
         ·rw [if_pos c31] at H
          have c31b0 := eq_true c31
          have c31b1 : decide (a2 ≤ (l0.length : Int)) = true := decide_eq_true c31
          clear c31
          replace H := Option.bind_eq_some_iff.mp H
          obtain ⟨t112, A320, H⟩ := H
          replace H : (if t105.toList = t112.toList then (if t106 = 0 then (rubricklaw06_TreeRoots.j1 kj13 l0 t103 t104) else (some false)) else (some false)) = some true := H
          have A32 := Aside0.mk A320
          clear A320
          by_cases c33 : t105.toList = t112.toList
          ·rw [if_pos c33] at H
           have c33b0 : (t105.toList == t112.toList) = true := beq_iff_eq.mpr c33
           have c33b1 : (t105.toList != t112.toList) = false := bne_eq_false_iff_eq.mpr c33
           clear c33
           by_cases c34 : t106 = 0
           ·rw [if_pos c34] at H
            have c34b0 : (t106 == 0) = true := beq_iff_eq.mpr c34
            have c34b1 : (t106 != 0) = false := bne_eq_false_iff_eq.mpr c34
            clear c34
            have H' := Aside0.mk H
            clear H
            obtain ⟨i035, hi035, _, hsz35, _⟩ := info_parts info9
            obtain ⟨A35, hcut35, hA35, hC35⟩ := print_mid_of (P := Tryd.prog) Value.string (⟨#[]⟩ : ByteArray) 22 9 .i64 .i64 Tryd.underlying22 hi035 hsz35 A0 c0 l0 a1 a2 (of_decide_eq_true (by first | (with_reducible assumption) | assumption)) (by first | omega | exact of_decide_eq_true (by first | (with_reducible assumption) | assumption)) (of_decide_eq_true (by first | (with_reducible assumption) | assumption)) HC0.out
            have HR111 := Aside0.mk (Kd.C_of_reads (h1 := fun _ => rfl) (hA35 _ (Kd.reads_of_C HR0.out)))
            have HC111 := Aside0.mk hC35
            clear hA35 hC35 hi035 hsz35
            go_wp2_with (first | ((with_reducible refine gate_callee (f := 27) rfl ?_); refine goesL_ (some 65) rfl rfl Tryd.func27 (by kernel_rfl) rfl #[.slice A35 ((l0.take (a2 : Int).toNat).drop (a1 : Int).toNat).length (c0 - a1.toNat)] rfl (by (try simp only [List.map_toArray, List.map_cons, List.map_nil]); first | done | (rw [show ((l0.take (a2 : Int).toNat).drop (a1 : Int).toNat).length = (a2.toNat - a1.toNat) from (by rw [List.length_drop, List.length_take]; have h_ : (a2 : Int) ≤ (l0.length : Int) := of_decide_eq_true (by first | (with_reducible assumption) | assumption); omega)] <;> rfl) | rfl | (simp only [List.length_drop, List.length_take]; rfl)) ?_; (with_reducible refine (rubrickref06_Root.calls kj13 _ _ ((l0.take (a2 : Int).toNat).drop (a1 : Int).toNat) t112 _ ?side1 ?side2 A32.out).mono ?_); (case side1 => repeat (first | exact (Kd.C_below HR111.out HB.out) | (with_reducible refine Kd.C_alloc ?_ _) | (with_reducible refine Kd.C_drewN ?_ _) | (with_reducible refine Kd.C_drew ?_))); (case side2 => exact HC111.out); rintro e w36 ⟨rfl, hb⟩; refine ⟨_, rfl, ?_⟩; have n0_ := Aside0.mk (below_step (by repeat (first | (with_reducible first | exact HB.out | apply below_alloc | apply pw_below_drewN | apply below_drew1) | exact HB.out)) hb); clear HB; have HB := n0_; clear n0_; (try clear hb); (try clear hb2); (try clear hk); (try clear hi)))
            go_meet
            case rel => exact ⟨_, H', ⟨by have := HJ13.out; first | omega | exact Nat.le_refl _⟩, ⟨by repeat (first | (with_reducible first | exact HB.out | apply below_alloc | apply pw_below_drewN | apply below_drew1) | exact HB.out)⟩⟩
           ·rw [if_neg c34] at H
            have c34b0 : (t106 == 0) = false := beq_eq_false_iff_ne.mpr c34
            have c34b1 : (t106 != 0) = true := bne_iff_ne.mpr c34
            cases H
          ·rw [if_neg c33] at H
           have c33b0 : (t105.toList == t112.toList) = false := beq_eq_false_iff_ne.mpr c33
           have c33b1 : (t105.toList != t112.toList) = true := bne_iff_ne.mpr c33
           cases H
         ·rw [if_neg c31] at H
          exact absurd H (by simp)
        ·rw [if_neg c30] at H
         exact absurd H (by simp)
       ·rw [if_neg c29] at H
        exact absurd H (by simp)
     case rest =>
      clear HC25
      try clear c1
      try clear c2
      try clear p2
      try clear c3
      try clear c6
      try clear c7
      try clear c11
      try clear c12
      try clear c13
      try clear c13b0
      try clear c13b1
      try clear c17
      try clear c17b0
      try clear c18
      try clear c18b0
      try clear c19
      try clear c19b0
      try clear c20
      try clear c20b0
      try clear c20b1
      try clear c21
      try clear c21b0
      try clear c21b1
      try clear c22
      try clear c22b0
      try clear c22b1
      try clear c24
      try clear c25
      try clear c26
      try clear c27
      try clear c27b0
      try clear c27b1
      try clear c28
      try clear c28b0
      try clear c28b1
      try clear c29
      try clear c29b0
      try clear c29b1
      try clear c30
      try clear c30b0
      try clear c30b1
      try clear c31
      try clear c31b0
      try clear c31b1
      try clear c33
      try clear c33b0
      try clear c33b1
      try clear c34
      try clear c34b0
      try clear c34b1
      try clear p2
      obtain ⟨kq, HA, HJ24, HB⟩ := hcut
      cases kq with
      | zero => exact absurd HA.out (by simp [rubricklaw06_TreeRoots.j1])
      | succ kj24 =>
       have H := HA.out
       clear HA
       simp only [rubricklaw06_TreeRoots.j1] at H
       replace H := Option.bind_eq_some_iff.mp H
       obtain ⟨t113, A370, H⟩ := H
       replace H : (if t113 = true then ((rubrickref06_Root.f kj24 l0).bind fun t114 => (if t103.toList = t114.toList then (if t104 = 0 then ((rubricklaw06_knows.f kj24).bind fun t115 => (some t115)) else (some false)) else (some false))) else (if t103.toList = ([] : List UInt8) then (if t104 = 1 then ((rubricklaw06_knows.f kj24).bind fun t116 => (some t116)) else (some false)) else (some false))) = some true := H
       have A37 := Aside0.mk A370
       clear A370
       by_cases c38 : t113 = true
       ·subst c38
        have H1 : ((rubrickref06_Root.f kj24 l0).bind fun t114 => (if t103.toList = t114.toList then (if t104 = 0 then ((rubricklaw06_knows.f kj24).bind fun t115 => (some t115)) else (some false)) else (some false))) = some true := by rw [if_pos rfl] at H; exact H
        clear H
        have H := H1
        clear H1
        replace H := Option.bind_eq_some_iff.mp H
        obtain ⟨t114, A390, H⟩ := H
        replace H : (if t103.toList = t114.toList then (if t104 = 0 then ((rubricklaw06_knows.f kj24).bind fun t115 => (some t115)) else (some false)) else (some false)) = some true := H
        have A39 := Aside0.mk A390
        clear A390
        by_cases c40 : t103.toList = t114.toList
        ·rw [if_pos c40] at H
         have c40b0 : (t103.toList == t114.toList) = true := beq_iff_eq.mpr c40
         have c40b1 : (t103.toList != t114.toList) = false := bne_eq_false_iff_eq.mpr c40
         clear c40
         by_cases c41 : t104 = 0
         ·rw [if_pos c41] at H
          have c41b0 : (t104 == 0) = true := beq_iff_eq.mpr c41
          have c41b1 : (t104 != 0) = false := bne_eq_false_iff_eq.mpr c41
          clear c41
          replace H := Option.bind_eq_some_iff.mp H
          obtain ⟨t115, A420, H⟩ := H
          replace H : (some t115) = some true := H
          have A42 := Aside0.mk A420
          clear A420
          have HT2_ := Aside0.mk (Option.some.inj H)
          clear H
          go_wp2_with (first | ((with_reducible refine gate_callee (f := 14) rfl ?_); refine goesL_ (some 72) rfl rfl Tryd.func14 (by kernel_rfl) rfl #[.slice A0 l0.length c0] rfl (by (try simp only [List.map_toArray, List.map_cons, List.map_nil]); first | done | rfl | (simp only [List.length_drop, List.length_take]; rfl)) ?_; (with_reducible refine (rubrickref06_Right.calls kj24 _ _ l0 true _ ?side1 ?side2 A37.out).mono ?_); (case side1 => repeat (first | exact (Kd.C_below HR0.out HB.out) | (with_reducible refine Kd.C_alloc ?_ _) | (with_reducible refine Kd.C_drewN ?_ _) | (with_reducible refine Kd.C_drew ?_))); (case side2 => exact HC0.out); rintro e w' ⟨rfl, ⟨nd, rfl⟩⟩; refine ⟨_, rfl, ?_⟩) | ((with_reducible refine gate_callee (f := 27) rfl ?_); refine goesL_ (some 85) rfl rfl Tryd.func27 (by kernel_rfl) rfl #[.slice A0 l0.length c0] rfl (by (try simp only [List.map_toArray, List.map_cons, List.map_nil]); first | done | rfl | (simp only [List.length_drop, List.length_take]; rfl)) ?_; (with_reducible refine (rubrickref06_Root.calls kj24 _ _ l0 t114 _ ?side1 ?side2 A39.out).mono ?_); (case side1 => repeat (first | exact (Kd.C_below HR0.out (by repeat (first | (with_reducible first | exact HB.out | apply below_alloc | apply pw_below_drewN | apply below_drew1) | exact HB.out))) | (with_reducible refine Kd.C_alloc ?_ _) | (with_reducible refine Kd.C_drewN ?_ _) | (with_reducible refine Kd.C_drew ?_))); (case side2 => exact HC0.out); rintro e w43 ⟨rfl, hb⟩; refine ⟨_, rfl, ?_⟩; have n0_ := Aside0.mk (below_step (by repeat (first | (with_reducible first | exact HB.out | apply below_alloc | apply pw_below_drewN | apply below_drew1) | exact HB.out)) hb); clear HB; have HB := n0_; clear n0_; (try clear hb); (try clear hb2); (try clear hk); (try clear hi)) | (go_at_call 12; (with_reducible refine (rubricklaw06_knows.calls kj24  t115 _ ?side1 A42.out).mono ?_); (case side1 => exact gw_step hG_ (by repeat (first | (with_reducible first | exact HB.out | apply below_alloc | apply pw_below_drewN | apply below_drew1) | exact HB.out))); rintro e w44 ⟨rfl, hb⟩; have n0_ := Aside0.mk (below_step (by repeat (first | (with_reducible first | exact HB.out | apply below_alloc | apply pw_below_drewN | apply below_drew1) | exact HB.out)) hb); clear HB; have HB := n0_; clear n0_; (try clear hb); (try clear hb2); (try clear hk); (try clear hi)))
          go_ret
          exact ⟨by first | rfl | (simp [errW_none, errW_some] <;> rfl) | exact congrArg (fun b_ : Bool => Ending.returned (Value.bool b_)) HT2_.out | (simp [*, errW_none, errW_some] <;> rfl), by repeat (first | (with_reducible first | exact HB.out | apply below_alloc | apply pw_below_drewN | apply below_drew1) | exact HB.out)⟩
         ·rw [if_neg c41] at H
          have c41b0 : (t104 == 0) = false := beq_eq_false_iff_ne.mpr c41
          have c41b1 : (t104 != 0) = true := bne_iff_ne.mpr c41
          cases H
        ·rw [if_neg c40] at H
         have c40b0 : (t103.toList == t114.toList) = false := beq_eq_false_iff_ne.mpr c40
         have c40b1 : (t103.toList != t114.toList) = true := bne_iff_ne.mpr c40
         cases H
       ·replace c38 := Bool.eq_false_iff.mpr c38
        subst c38
        have H1 : (if t103.toList = ([] : List UInt8) then (if t104 = 1 then ((rubricklaw06_knows.f kj24).bind fun t116 => (some t116)) else (some false)) else (some false)) = some true := by rw [if_neg (show ¬ (false = true) by decide)] at H; exact H
        clear H
        have H := H1
        clear H1
        by_cases c45 : t103.toList = ([] : List UInt8)
        ·rw [if_pos c45] at H
         have c45b0 : (t103.toList == ([] : List UInt8)) = true := beq_iff_eq.mpr c45
         have c45b1 : (t103.toList != ([] : List UInt8)) = false := bne_eq_false_iff_eq.mpr c45
         clear c45
         by_cases c46 : t104 = 1
         ·rw [if_pos c46] at H
          have c46b0 : (t104 == 1) = true := beq_iff_eq.mpr c46
          have c46b1 : (t104 != 1) = false := bne_eq_false_iff_eq.mpr c46
          clear c46
          replace H := Option.bind_eq_some_iff.mp H
          obtain ⟨t116, A470, H⟩ := H
          replace H : (some t116) = some true := H
          have A47 := Aside0.mk A470
          clear A470
          have HT2_ := Aside0.mk (Option.some.inj H)
          clear H
          go_wp2_with (first | ((with_reducible refine gate_callee (f := 14) rfl ?_); refine goesL_ (some 72) rfl rfl Tryd.func14 (by kernel_rfl) rfl #[.slice A0 l0.length c0] rfl (by (try simp only [List.map_toArray, List.map_cons, List.map_nil]); first | done | rfl | (simp only [List.length_drop, List.length_take]; rfl)) ?_; (with_reducible refine (rubrickref06_Right.calls kj24 _ _ l0 false _ ?side1 ?side2 A37.out).mono ?_); (case side1 => repeat (first | exact (Kd.C_below HR0.out HB.out) | (with_reducible refine Kd.C_alloc ?_ _) | (with_reducible refine Kd.C_drewN ?_ _) | (with_reducible refine Kd.C_drew ?_))); (case side2 => exact HC0.out); rintro e w' ⟨rfl, ⟨nd, rfl⟩⟩; refine ⟨_, rfl, ?_⟩) | (go_at_call 12; (with_reducible refine (rubricklaw06_knows.calls kj24  t116 _ ?side1 A47.out).mono ?_); (case side1 => exact gw_step hG_ (by repeat (first | (with_reducible first | exact HB.out | apply below_alloc | apply pw_below_drewN | apply below_drew1) | exact HB.out))); rintro e w48 ⟨rfl, hb⟩; have n0_ := Aside0.mk (below_step (by repeat (first | (with_reducible first | exact HB.out | apply below_alloc | apply pw_below_drewN | apply below_drew1) | exact HB.out)) hb); clear HB; have HB := n0_; clear n0_; (try clear hb); (try clear hb2); (try clear hk); (try clear hi)))
          go_ret
          exact ⟨by first | rfl | (simp [errW_none, errW_some] <;> rfl) | exact congrArg (fun b_ : Bool => Ending.returned (Value.bool b_)) HT2_.out | (simp [*, errW_none, errW_some] <;> rfl), by repeat (first | (with_reducible first | exact HB.out | apply below_alloc | apply pw_below_drewN | apply below_drew1) | exact HB.out)⟩
         ·rw [if_neg c46] at H
          have c46b0 : (t104 == 1) = false := beq_eq_false_iff_ne.mpr c46
          have c46b1 : (t104 != 1) = true := bne_iff_ne.mpr c46
          cases H
        ·rw [if_neg c45] at H
         have c45b0 : (t103.toList == ([] : List UInt8)) = false := beq_eq_false_iff_ne.mpr c45
         have c45b1 : (t103.toList != ([] : List UInt8)) = true := bne_iff_ne.mpr c45
         cases H
  ·rw [if_neg c13] at H
   have c13b0 : (t107 == t108) = false := beq_eq_false_iff_ne.mpr c13
   have c13b1 : (t107 != t108) = true := bne_iff_ne.mpr c13
   cases H
end Go.Proofs.YtgcfhgkhokljcaaDoor.PTreeRoots

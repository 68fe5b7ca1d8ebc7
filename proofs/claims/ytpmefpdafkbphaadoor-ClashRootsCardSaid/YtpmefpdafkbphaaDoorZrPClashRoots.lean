import Derived.Test.YtpmefpdafkbphaaDoorZrHZ
import Derived.Test.YtpmefpdafkbphaaDoorProg
import Derived.Below
import Derived.Deep.Draws
import Derived.Deep.AppendLies
import Derived.Maps.AppendAt
import Derived.OwnWalk
import Derived.Laws.BytesArg
import Derived.Laws.MakeOwn
import Derived.Laws.OwnMore
import Derived.Deep.OwnRows
import Derived.Tactics
import Derived.Lib.ConvBytes
import Derived.Laws.Slices
import Derived.WalkKit
import Derived.KernelRfl
import Derived.RowKit3
import Derived.Deep.LoopGhost
import Derived.Deep.QuietTactic
import Derived.BigQuiet
import Derived.WideLaws
import Derived.Deep.DeepCutAuto
import Derived.Deep.CutBlock
import Derived.Deep.RegionHeld3
import Derived.Laws.Rows
import Derived.Lib.AppendStr
import Derived.ArgAppend
import Derived.Laws.IdiomCopy
import Derived.OrdersHeld
import Derived.Laws.BitsLemmas
import Derived.RowKit
import Derived.WalkMore
import Derived.Test.YtpmefpdafkbphaaDoorZrHShaD
import Derived.Test.YtpmefpdafkbphaaDoorZrPS
import Derived.Test.YtpmefpdafkbphaaDoorZrPR
import Derived.Test.YtpmefpdafkbphaaDoorZrPT
import Derived.Test.YtpmefpdafkbphaaDoorZrPB
import Derived.Test.YtpmefpdafkbphaaDoorZrHNode
import Derived.Test.YtpmefpdafkbphaaDoorZrPC
import Derived.Test.YtpmefpdafkbphaaDoorZrHBytes8
import Derived.Test.YtpmefpdafkbphaaDoorZrPQ
import Derived.Test.YtpmefpdafkbphaaDoorZrPL
import Derived.Test.YtpmefpdafkbphaaDoorZrWWords
import Derived.Test.YtpmefpdafkbphaaDoorZrWLast
import Derived.Test.YtpmefpdafkbphaaDoorZrWTab
import Derived.Test.YtpmefpdafkbphaaDoorZrWApart
import Derived.Test.YtpmefpdafkbphaaDoorZrWFoot
import Derived.Test.YtpmefpdafkbphaaDoorZrWKept
import Derived.Test.YtpmefpdafkbphaaDoorZrWShare
import Derived.Test.YtpmefpdafkbphaaDoorZrWN
import Derived.Laws.StructEq
import Derived.Test.YtpmefpdafkbphaaDoorZrWRepsOne
import Derived.Test.YtpmefpdafkbphaaDoorZrWInv
import Derived.Test.YtpmefpdafkbphaaDoorZrWGuard
import Derived.Test.YtpmefpdafkbphaaDoorZrWNEv
import Derived.Test.YtpmefpdafkbphaaDoorZrWMore
-- PRINTED by print.py (a twelfth state) out of the translation. Not trusted: Lean checks it.
namespace Go.Proofs.YtpmefpdafkbphaaDoor.PClashRoots
open Go.Proofs.YtpmefpdafkbphaaDoor.HZ Go.RowKit  Go.Proofs.YtpmefpdafkbphaaDoor.HSha Go.Proofs.YtpmefpdafkbphaaDoor.PS Go.Proofs.YtpmefpdafkbphaaDoor.PR Go.Proofs.YtpmefpdafkbphaaDoor.PT Go.Proofs.YtpmefpdafkbphaaDoor.PB Go.Proofs.YtpmefpdafkbphaaDoor.HNode Go.Proofs.YtpmefpdafkbphaaDoor.PC Go.Proofs.YtpmefpdafkbphaaDoor.HBytes8 Go.Proofs.YtpmefpdafkbphaaDoor.PQ Go.Proofs.YtpmefpdafkbphaaDoor.PL Go.Proofs.YtpmefpdafkbphaaDoorW.PrintWords Go.Proofs.YtpmefpdafkbphaaDoorW.PrintLast Go.Proofs.YtpmefpdafkbphaaDoorW.PrintMore
attribute [local go_sem] max2_int min2_int max_two min_two max_three min_three max_four min_four   -- for this text's walks alone
set_option linter.unusedVariables false
set_option linter.unusedSimpArgs false
def errW : Option Int → Value
 | none => .nilIface
 | some c => .iface 0 (.int .i64 c)
theorem errW_none : errW none = .nilIface := rfl
theorem errW_some (c : Int) : errW (some c) = .iface 0 (.int .i64 c) := rfl
-- the values' own types
end Go.Proofs.YtpmefpdafkbphaaDoor.PClashRoots
namespace Go.Proofs.YtpmefpdafkbphaaDoor.PClashRoots
open Go.Proofs.YtpmefpdafkbphaaDoor.HZ Go.RowKit  Go.Proofs.YtpmefpdafkbphaaDoor.HSha Go.Proofs.YtpmefpdafkbphaaDoor.PS Go.Proofs.YtpmefpdafkbphaaDoor.PR Go.Proofs.YtpmefpdafkbphaaDoor.PT Go.Proofs.YtpmefpdafkbphaaDoor.PB Go.Proofs.YtpmefpdafkbphaaDoor.HNode Go.Proofs.YtpmefpdafkbphaaDoor.PC Go.Proofs.YtpmefpdafkbphaaDoor.HBytes8 Go.Proofs.YtpmefpdafkbphaaDoor.PQ Go.Proofs.YtpmefpdafkbphaaDoor.PL Go.Proofs.YtpmefpdafkbphaaDoorW.PrintWords Go.Proofs.YtpmefpdafkbphaaDoorW.PrintLast Go.Proofs.YtpmefpdafkbphaaDoorW.PrintMore
attribute [local go_sem] max2_int min2_int max_two min_two max_three min_three max_four min_four   -- for this text's walks alone
set_option linter.unusedVariables false
set_option linter.unusedSimpArgs false
/-! ### rubricklaw08_ClashRoots: function 10 -/
mutual
def rubricklaw08_ClashRoots.j0 : Nat → List (List Int) → List (List Int) → Bool → Option (Bool)
 | 0, _, _, _ => none
 | k + 1, x0, x1, x14 => if x14 = true then ((rubricklaw08_knows.f k).bind fun t103 => (some t103)) else ((clash_Two.f k x0 x1).bind fun bt104 => ((clash_Two.f k x0 x0).bind fun bt112 => (if bt112.2.2 = true then (some false) else (if (x0.length : Int) = (x1.length : Int) then ((rubricklaw08_like.f k x0 x1).bind fun t120 => (if t120 = true then (rubricklaw08_ClashRoots.j1 k x0 x1 bt104.2.2 false bt104.1 bt104.2.1) else ((rubrickref06_Leaves.f k x0).bind fun t121 => ((rubrickref06_Root.f k t121).bind fun t124 => ((rubrickref06_Leaves.f k x1).bind fun t125 => ((rubrickref06_Root.f k t125).bind fun t128 => (rubricklaw08_ClashRoots.j1 k x0 x1 bt104.2.2 (t124.toList == t128.toList) bt104.1 bt104.2.1))))))) else (rubricklaw08_ClashRoots.j1 k x0 x1 bt104.2.2 false bt104.1 bt104.2.1)))))
def rubricklaw08_ClashRoots.j1 : Nat → List (List Int) → List (List Int) → Bool → Bool → List Int → List Int → Option (Bool)
 | 0, _, _, _, _, _, _ => none
 | k + 1, x0, x1, x6, x48, x112000, x112001 => if x48 = true then (if x6 = true then ((seal_Is.f x112000 x112001).bind fun t129 => (if t129 = true then ((rubricklaw08_knows.f k).bind fun t130 => (some t130)) else (some false))) else (some false)) else (if x6 = true then ((seal_Is.f x112000 x112001).bind fun t131 => (if t131 = true then ((rubricklaw08_like.f k x0 x1).bind fun t132 => (if t132 = true then (some false) else ((rubricklaw08_knows.f k).bind fun t133 => (some t133)))) else (some false))) else ((rubricklaw08_knows.f k).bind fun t134 => (some t134)))
end
def rubricklaw08_ClashRoots.f (k : Nat) (l0 : List (List Int)) (l1 : List (List Int)) : Option (Bool) := (rubricklaw08_Great.f k l0).bind fun t101 => (if t101 = true then (rubricklaw08_ClashRoots.j0 k l0 l1 true) else ((rubricklaw08_Great.f k l1).bind fun t102 => (rubricklaw08_ClashRoots.j0 k l0 l1 t102)))
set_option maxHeartbeats 8000000 in
set_option maxRecDepth 100000 in
theorem rubricklaw08_ClashRoots.calls (k : Nat) (A0 : Option Addr) (c0 : Nat) (l0 : List (List Int)) (A1 : Option Addr) (c1 : Nat) (l1 : List (List Int)) (r : Bool) (w : World) (hG_ : Aside0 (GW w)) (hr0 : Kd.C (Kd.slice 5 (Kd.int .u8)) w A0 l0.length l0) (hc0 : l0.length ≤ c0) (hr1 : Kd.C (Kd.slice 5 (Kd.int .u8)) w A1 l1.length l1) (hc1 : l1.length ≤ c1) (h : rubricklaw08_ClashRoots.f k l0 l1 = some r) (hT_ : r = true) :
  Calls Tryd.prog 10 #[.slice A0 l0.length c0, .slice A1 l1.length c1] w fun e w' => e = .returned (.bool r) ∧ Below w.heap.size w w' := by
 have hu44 := Tryd.underlying44
 have HR0 := Aside0.mk hr0
 have HC0 := Aside0.mk hc0
 clear hr0 hc0
 have HR1 := Aside0.mk hr1
 have HC1 := Aside0.mk hc1
 clear hr1 hc1
 have HB := Aside0.mk (Below.refl w.heap.size w)
 subst hT_
 have H : ((rubricklaw08_Great.f k l0).bind fun t101 => (if t101 = true then (rubricklaw08_ClashRoots.j0 k l0 l1 true) else ((rubricklaw08_Great.f k l1).bind fun t102 => (rubricklaw08_ClashRoots.j0 k l0 l1 t102)))) = some true := h
 clear h
 have HC3 := Aside0.mk H
 clear H
 go_enter Tryd.func10, Tryd.ntmps10
 go_upto_region 1 with (fail)
 go_cut [14] (fun v14 wc => ∃ (kq : Nat) (x14_2 : Bool), v14 = .bool x14_2 ∧ Aside0 (rubricklaw08_ClashRoots.j0 kq l0 l1 x14_2 = some true) ∧ Aside0 (kq ≤ k) ∧ Aside0 (Below w.heap.size w wc))
 case first =>
  have H := HC3.out
  clear HC3
  replace H := Option.bind_eq_some_iff.mp H
  obtain ⟨t101, A40, H⟩ := H
  replace H : (if t101 = true then (rubricklaw08_ClashRoots.j0 k l0 l1 true) else ((rubricklaw08_Great.f k l1).bind fun t102 => (rubricklaw08_ClashRoots.j0 k l0 l1 t102))) = some true := H
  have A4 := Aside0.mk A40
  clear A40
  by_cases c5 : t101 = true
  ·subst c5
   have H1 : (rubricklaw08_ClashRoots.j0 k l0 l1 true) = some true := by rw [if_pos rfl] at H; exact H
   clear H
   have H := H1
   clear H1
   have H' := Aside0.mk H
   clear H
   go_wp2_with (first | ((with_reducible refine gate_callee (f := 25) rfl ?_); refine goesL_ (some 10) rfl rfl Tryd.func25 (by kernel_rfl) rfl #[.slice A0 l0.length c0] rfl zm ?_; (with_reducible refine (rubricklaw08_Great.calls k _ _ l0 true _ ?side1 ?side2 A4.out).mono ?_); (case side1 => exact zc (Kd.C_below HR0.out HB.out)); (case side2 => exact HC0.out); rintro e w' ⟨rfl, ⟨nd, rfl⟩⟩; refine ⟨_, rfl, ?_⟩))
   go_meet
   case rel => exact ⟨_, (true), (by first | rfl | (simp; done) | (simp [*]; done)), H', ⟨by first | omega | exact Nat.le_refl _⟩, ⟨zb HB.out⟩⟩
  ·replace c5 := Bool.eq_false_iff.mpr c5
   subst c5
   have H1 : ((rubricklaw08_Great.f k l1).bind fun t102 => (rubricklaw08_ClashRoots.j0 k l0 l1 t102)) = some true := by rw [if_neg (show ¬ (false = true) by decide)] at H; exact H
   clear H
   have H := H1
   clear H1
   replace H := Option.bind_eq_some_iff.mp H
   obtain ⟨t102, A60, H⟩ := H
   replace H : (rubricklaw08_ClashRoots.j0 k l0 l1 t102) = some true := H
   have A6 := Aside0.mk A60
   clear A60
   have H' := Aside0.mk H
   clear H
   go_wp2_with (first | ((with_reducible refine gate_callee (f := 25) rfl ?_); refine goesL_ (some 10) rfl rfl Tryd.func25 (by kernel_rfl) rfl #[.slice A0 l0.length c0] rfl zm ?_; (with_reducible refine (rubricklaw08_Great.calls k _ _ l0 false _ ?side1 ?side2 A4.out).mono ?_); (case side1 => exact zc (Kd.C_below HR0.out HB.out)); (case side2 => exact HC0.out); rintro e w' ⟨rfl, ⟨nd, rfl⟩⟩; refine ⟨_, rfl, ?_⟩) | (go_at_call 25; (with_reducible refine (rubricklaw08_Great.calls k _ _ l1 t102 _ ?side1 ?side2 A6.out).mono ?_); (case side1 => exact zc (Kd.C_below HR1.out (zb HB.out))); (case side2 => exact HC1.out); rintro e w' ⟨rfl, ⟨nd, rfl⟩⟩))
   go_meet
   case rel => exact ⟨_, (t102), (by first | rfl | (simp; done) | (simp [*]; done)), H', ⟨by first | omega | exact Nat.le_refl _⟩, ⟨zb HB.out⟩⟩
 case rest =>
  clear HC3
  try clear c1
  try clear c2
  try clear p2
  try clear c5
  obtain ⟨kq, x14_2, rfl, HA, HJ2, HB⟩ := hcut
  cases kq with
  | zero => exact absurd HA.out (by simp [rubricklaw08_ClashRoots.j0])
  | succ kj2 =>
   have H := HA.out
   clear HA
   simp only [rubricklaw08_ClashRoots.j0] at H
   by_cases c7 : x14_2 = true
   ·subst c7
    have H1 : ((rubricklaw08_knows.f kj2).bind fun t103 => (some t103)) = some true := by rw [if_pos rfl] at H; exact H
    clear H
    have H := H1
    clear H1
    replace H := Option.bind_eq_some_iff.mp H
    obtain ⟨t103, A80, H⟩ := H
    replace H : (some t103) = some true := H
    have A8 := Aside0.mk A80
    clear A80
    have HT2_ := Aside0.mk (Option.some.inj H)
    clear H
    go_wp2_with (first | ((with_reducible refine gate_callee (f := 26) rfl ?_); refine goesL_ (some 15) rfl rfl Tryd.func26 (by kernel_rfl) rfl #[] rfl zm ?_; (with_reducible refine (rubricklaw08_knows.calls kj2  t103 _ ?side1 A8.out).mono ?_); (case side1 => exact gw_step hG_ (zb HB.out)); rintro e w9 ⟨rfl, hb⟩; refine ⟨_, rfl, ?_⟩; have n0_ := zS HB hb; clear HB; have HB := n0_; clear n0_; (try clear hb); (try clear hb2); (try clear hk); (try clear hi)))
    go_ret
    exact ⟨by first | rfl | (simp [errW_none, errW_some] <;> rfl) | exact congrArg (fun b_ : Bool => Ending.returned (Value.bool b_)) HT2_.out | (simp [*, errW_none, errW_some] <;> rfl), zb HB.out⟩
   ·replace c7 := Bool.eq_false_iff.mpr c7
    subst c7
    have H1 : ((clash_Two.f kj2 l0 l1).bind fun bt104 => ((clash_Two.f kj2 l0 l0).bind fun bt112 => (if bt112.2.2 = true then (some false) else (if (l0.length : Int) = (l1.length : Int) then ((rubricklaw08_like.f kj2 l0 l1).bind fun t120 => (if t120 = true then (rubricklaw08_ClashRoots.j1 kj2 l0 l1 bt104.2.2 false bt104.1 bt104.2.1) else ((rubrickref06_Leaves.f kj2 l0).bind fun t121 => ((rubrickref06_Root.f kj2 t121).bind fun t124 => ((rubrickref06_Leaves.f kj2 l1).bind fun t125 => ((rubrickref06_Root.f kj2 t125).bind fun t128 => (rubricklaw08_ClashRoots.j1 kj2 l0 l1 bt104.2.2 (t124.toList == t128.toList) bt104.1 bt104.2.1))))))) else (rubricklaw08_ClashRoots.j1 kj2 l0 l1 bt104.2.2 false bt104.1 bt104.2.1))))) = some true := by rw [if_neg (show ¬ (false = true) by decide)] at H; exact H
    clear H
    have H := H1
    clear H1
    replace H := Option.bind_eq_some_iff.mp H
    obtain ⟨⟨t104, t107, t110⟩, A100, H⟩ := H
    replace H : ((clash_Two.f kj2 l0 l0).bind fun bt112 => (if bt112.2.2 = true then (some false) else (if (l0.length : Int) = (l1.length : Int) then ((rubricklaw08_like.f kj2 l0 l1).bind fun t120 => (if t120 = true then (rubricklaw08_ClashRoots.j1 kj2 l0 l1 t110 false t104 t107) else ((rubrickref06_Leaves.f kj2 l0).bind fun t121 => ((rubrickref06_Root.f kj2 t121).bind fun t124 => ((rubrickref06_Leaves.f kj2 l1).bind fun t125 => ((rubrickref06_Root.f kj2 t125).bind fun t128 => (rubricklaw08_ClashRoots.j1 kj2 l0 l1 t110 (t124.toList == t128.toList) t104 t107))))))) else (rubricklaw08_ClashRoots.j1 kj2 l0 l1 t110 false t104 t107)))) = some true := H
    have A10 := Aside0.mk A100
    clear A100
    replace H := Option.bind_eq_some_iff.mp H
    obtain ⟨⟨t112, t115, t118⟩, A110, H⟩ := H
    replace H : (if t118 = true then (some false) else (if (l0.length : Int) = (l1.length : Int) then ((rubricklaw08_like.f kj2 l0 l1).bind fun t120 => (if t120 = true then (rubricklaw08_ClashRoots.j1 kj2 l0 l1 t110 false t104 t107) else ((rubrickref06_Leaves.f kj2 l0).bind fun t121 => ((rubrickref06_Root.f kj2 t121).bind fun t124 => ((rubrickref06_Leaves.f kj2 l1).bind fun t125 => ((rubrickref06_Root.f kj2 t125).bind fun t128 => (rubricklaw08_ClashRoots.j1 kj2 l0 l1 t110 (t124.toList == t128.toList) t104 t107))))))) else (rubricklaw08_ClashRoots.j1 kj2 l0 l1 t110 false t104 t107))) = some true := H
    have A11 := Aside0.mk A110
    clear A110
    by_cases c12 : t118 = true
    ·subst c12
     have H1 : (some false) = some true := by rw [if_pos rfl] at H; exact H
     clear H
     have H := H1
     clear H1
     cases H
    ·replace c12 := Bool.eq_false_iff.mpr c12
     subst c12
     have H1 : (if (l0.length : Int) = (l1.length : Int) then ((rubricklaw08_like.f kj2 l0 l1).bind fun t120 => (if t120 = true then (rubricklaw08_ClashRoots.j1 kj2 l0 l1 t110 false t104 t107) else ((rubrickref06_Leaves.f kj2 l0).bind fun t121 => ((rubrickref06_Root.f kj2 t121).bind fun t124 => ((rubrickref06_Leaves.f kj2 l1).bind fun t125 => ((rubrickref06_Root.f kj2 t125).bind fun t128 => (rubricklaw08_ClashRoots.j1 kj2 l0 l1 t110 (t124.toList == t128.toList) t104 t107))))))) else (rubricklaw08_ClashRoots.j1 kj2 l0 l1 t110 false t104 t107)) = some true := by rw [if_neg (show ¬ (false = true) by decide)] at H; exact H
     clear H
     have H := H1
     clear H1
     have HC13 := Aside0.mk H
     clear H
     go_upto_region 7 with (first | ((with_reducible refine gate_callee (f := 37) rfl ?_); refine goesL_ (some 19) rfl rfl Tryd.func37 (by kernel_rfl) rfl #[.slice A0 l0.length c0, .slice A1 l1.length c1] rfl zm ?_; (with_reducible refine (clash_Two.calls kj2 _ _ l0 _ _ l1 t104 t107 t110 _ ?side5 ?side1 ?side2 ?side3 ?side4 A10.out).mono ?_); (case side1 => exact zc (Kd.C_below HR0.out HB.out)); (case side2 => exact HC0.out); (case side3 => exact zc (Kd.C_below HR1.out HB.out)); (case side4 => exact HC1.out); (case side5 => exact gw_step hG_ (zb HB.out)); rintro e w14 ⟨v105, v108, rfl, ho0, ho1, hb⟩; refine ⟨_, rfl, ?_⟩; have n0_ := zL ho0 HB; have n1_ := zL ho1 HB; have n2_ := zS HB hb; clear HB; have HO106 := n0_; have HO109 := n1_; have HB := n2_; clear n0_ n1_ n2_; (try clear hb); (try clear hb2); (try clear hk); (try clear hi); (try clear ho0); (try clear ho1)) | ((with_reducible refine gate_dst (N := 5) rfl ?_); refine box_event ?hg (N := 5) ?hd (cs := #[.slice none 0 0, .slice none 0 0]) (t := 44) ?hr ?_; (case hd => rfl); (case hg => rfl); (case hr => first | (go_simp; done) | (go_simp; rfl)); intro gb111 hg w15 hbox hb; have n0_ := zR HO106 hb; have n1_ := zR HO109 hb; have n2_ := zS HB hb; have n3_ := Aside0.mk (hbox); have n4_ := Aside0.mk ((by rw [hg]; exact (below_size (zb HB.out)) : w.heap.size ≤ gb111)); have n5_ := Aside0.mk ((by rw [hg]; exact (below_size (zb HB.out)) : w.heap.size ≤ gb111)); clear HO106; clear HO109; clear HB; have HO106 := n0_; have HO109 := n1_; have HB := n2_; have BK111 := n3_; have GW111 := n4_; have GE111 := n5_; clear n0_ n1_ n2_ n3_ n4_ n5_; clear hb hbox hg; obtain ⟨Ao16, co16, eo16⟩ := Kd.R_slice HO106.out; subst eo16; have hcz17_0 : w15.cell? ⟨gb111, 0, none⟩ = some (.slice none 0 0) := (blk_cell BK111.out 0).trans rfl; have hcz17_1 : w15.cell? ⟨gb111, 1, none⟩ = some (.slice none 0 0) := (blk_cell BK111.out 1).trans rfl; have hfz17_0 := blk_frozen BK111.out 0; have hfz17_1 := blk_frozen BK111.out 1; obtain ⟨Ao18, co18, eo18⟩ := Kd.R_slice HO109.out; subst eo18) | ((with_reducible refine gate_callee (f := 37) rfl ?_); refine goesL_ (some 25) rfl rfl Tryd.func37 (by kernel_rfl) rfl #[.slice A0 l0.length c0, .slice A0 l0.length c0] rfl zm ?_; (with_reducible refine (clash_Two.calls kj2 _ _ l0 _ _ l0 t112 t115 false _ ?side5 ?side1 ?side2 ?side3 ?side4 A11.out).mono ?_); (case side1 => exact Kd.C_below HR0.out (zb1 HB.out GE111.out)); (case side2 => exact HC0.out); (case side3 => exact Kd.C_below HR0.out (zb1 HB.out GE111.out)); (case side4 => exact HC0.out); (case side5 => exact gw_step hG_ (zb1 HB.out GE111.out)); rintro e w19 ⟨v113, v116, rfl, ho0, ho1, hb⟩; refine ⟨_, rfl, ?_⟩; have n0_ := Aside0.mk (Kd.R_mono (Kd.R_told (Kd.R_told (Kd.R_old (by (with_reducible repeat (first | apply Kd.R_alloc | apply Kd.R_drewN | apply Kd.R_drew)); exact (Kd.R_mono (Kd.R_far (p := ⟨gb111, 1, none⟩) (Kd.R_far (p := ⟨gb111, 0, none⟩) (Kd.R_types HO106.out BK111.out (by decide)) (fun _ hk => hk.2) (.slice Ao16 t104.length co16)) (fun _ hk => hk.2) (.slice Ao18 t107.length co18)) (fun _ h_ => h_.1))) hb) (Kd.R_base ho0)) (Kd.R_base ho1)) (fun _ h_ => h_.1)); have n1_ := Aside0.mk (Kd.R_mono (Kd.R_told (Kd.R_told (Kd.R_old (by (with_reducible repeat (first | apply Kd.R_alloc | apply Kd.R_drewN | apply Kd.R_drew)); exact (Kd.R_mono (Kd.R_far (p := ⟨gb111, 1, none⟩) (Kd.R_far (p := ⟨gb111, 0, none⟩) (Kd.R_types HO109.out BK111.out (by decide)) (fun _ hk => hk.2) (.slice Ao16 t104.length co16)) (fun _ hk => hk.2) (.slice Ao18 t107.length co18)) (fun _ h_ => h_.1))) hb) (Kd.R_base ho0)) (Kd.R_base ho1)) (fun _ h_ => h_.1)); have n2_ := Aside0.mk (Kd.R_lower (Kd.R_new' (Kd.R_new' ho0 (Kd.R_lt (by (with_reducible repeat (first | apply Kd.R_alloc | apply Kd.R_drewN | apply Kd.R_drew)); exact (Kd.R_mono (Kd.R_far (p := ⟨gb111, 1, none⟩) (Kd.R_far (p := ⟨gb111, 0, none⟩) (Kd.R_types HO106.out BK111.out (by decide)) (fun _ hk => hk.2) (.slice Ao16 t104.length co16)) (fun _ hk => hk.2) (.slice Ao18 t107.length co18)) (fun _ h_ => h_.1))))) (Kd.R_lt (by (with_reducible repeat (first | apply Kd.R_alloc | apply Kd.R_drewN | apply Kd.R_drew)); exact (Kd.R_mono (Kd.R_far (p := ⟨gb111, 1, none⟩) (Kd.R_far (p := ⟨gb111, 0, none⟩) (Kd.R_types HO109.out BK111.out (by decide)) (fun _ hk => hk.2) (.slice Ao16 t104.length co16)) (fun _ hk => hk.2) (.slice Ao18 t107.length co18)) (fun _ h_ => h_.1))))) (below_size (zb1 HB.out GE111.out))); have n3_ := Aside0.mk (Kd.R_lower (Kd.R_new' (Kd.R_new' ho1 (Kd.R_lt (by (with_reducible repeat (first | apply Kd.R_alloc | apply Kd.R_drewN | apply Kd.R_drew)); exact (Kd.R_mono (Kd.R_far (p := ⟨gb111, 1, none⟩) (Kd.R_far (p := ⟨gb111, 0, none⟩) (Kd.R_types HO106.out BK111.out (by decide)) (fun _ hk => hk.2) (.slice Ao16 t104.length co16)) (fun _ hk => hk.2) (.slice Ao18 t107.length co18)) (fun _ h_ => h_.1))))) (Kd.R_lt (by (with_reducible repeat (first | apply Kd.R_alloc | apply Kd.R_drewN | apply Kd.R_drew)); exact (Kd.R_mono (Kd.R_far (p := ⟨gb111, 1, none⟩) (Kd.R_far (p := ⟨gb111, 0, none⟩) (Kd.R_types HO109.out BK111.out (by decide)) (fun _ hk => hk.2) (.slice Ao16 t104.length co16)) (fun _ hk => hk.2) (.slice Ao18 t107.length co18)) (fun _ h_ => h_.1))))) (below_size (zb1 HB.out GE111.out))); have n4_ := Aside0.mk (blk_below (g := gb111) (o := .cells #[.slice Ao16 t104.length co16, .slice Ao18 t107.length co18] 44 (0, 0)) (by (with_reducible repeat (first | refine blk_drewN ?_ _ | refine blk_drew ?_ | refine blk_alloc ?_ _)); refine blk_put (cs := #[.slice Ao16 t104.length co16, .slice none 0 0]) ?_ 1 _ rfl; (with_reducible repeat (first | refine blk_drewN ?_ _ | refine blk_drew ?_ | refine blk_alloc ?_ _)); refine blk_put (cs := #[.slice none 0 0, .slice none 0 0]) ?_ 0 _ rfl; (with_reducible repeat (first | refine blk_drewN ?_ _ | refine blk_drew ?_ | refine blk_alloc ?_ _)); exact BK111.out) hb); have n5_ := zS1 HB GE111 hb; clear HO106; clear HO109; clear BK111; clear HB; have HO106 := n0_; have HO109 := n1_; have HO114 := n2_; have HO117 := n3_; have BK111 := n4_; have HB := n5_; clear n0_ n1_ n2_ n3_ n4_ n5_; (try clear hb); (try clear hb2); (try clear hk); (try clear hi); (try clear ho0); (try clear ho1)) | ((with_reducible refine gate_dst (N := 7) rfl ?_); refine box_event ?hg (N := 7) ?hd (cs := #[.slice none 0 0, .slice none 0 0]) (t := 44) ?hr ?_; (case hd => rfl); (case hg => rfl); (case hr => first | (go_simp; done) | (go_simp; rfl)); intro gb119 hg w20 hbox hb; have n0_ := zR HO106 hb; have n1_ := zR HO109 hb; have n2_ := zR HO114 hb; have n3_ := zR HO117 hb; have n4_ := zK BK111 hb; have n5_ := zS1 HB GE111 hb; have n6_ := Aside0.mk (hbox); have n7_ := Aside0.mk ((by rw [hg]; exact (below_size (zb1 HB.out GE111.out)) : w.heap.size ≤ gb119)); have n8_ := Aside0.mk ((by rw [hg]; exact (below_size (zb1 HB.out GE111.out)) : w.heap.size ≤ gb119)); have n9_ := Aside0.mk ((by rw [hg]; exact Nat.ne_of_lt (blk_lt (g := gb111) (o := .cells #[.slice Ao16 t104.length co16, .slice Ao18 t107.length co18] 44 (0, 0)) (zk BK111.out)) : gb111 ≠ gb119)); have n10_ := Aside0.mk ((by rw [hg]; exact Nat.ne_of_gt (blk_lt (g := gb111) (o := .cells #[.slice Ao16 t104.length co16, .slice Ao18 t107.length co18] 44 (0, 0)) (zk BK111.out)) : gb119 ≠ gb111)); clear HO106; clear HO109; clear HO114; clear HO117; clear BK111; clear HB; have HO106 := n0_; have HO109 := n1_; have HO114 := n2_; have HO117 := n3_; have BK111 := n4_; have HB := n5_; have BK119 := n6_; have GW119 := n7_; have GE119 := n8_; have NB111_119 := n9_; have NB119_111 := n10_; clear n0_ n1_ n2_ n3_ n4_ n5_ n6_ n7_ n8_ n9_ n10_; clear hb hbox hg; obtain ⟨Ao21, co21, eo21⟩ := Kd.R_slice HO114.out; subst eo21; have hnb22 := NB119_111.out; have hnc22 := NB111_119.out; have hcz23_0 : w20.cell? ⟨gb119, 0, none⟩ = some (.slice none 0 0) := (blk_cell BK119.out 0).trans rfl; have hcz23_1 : w20.cell? ⟨gb119, 1, none⟩ = some (.slice none 0 0) := (blk_cell BK119.out 1).trans rfl; have hfz23_0 := blk_frozen BK119.out 0; have hfz23_1 := blk_frozen BK119.out 1; obtain ⟨Ao24, co24, eo24⟩ := Kd.R_slice HO117.out; subst eo24))
     (try simp only [Act.put, List.setIfInBounds_toArray, List.set_cons_zero, List.set_cons_succ])
     go_cut [48] (fun v48 wc => ∃ (kq : Nat) (x48_12 : Bool), v48 = .bool x48_12 ∧ Aside0 (rubricklaw08_ClashRoots.j1 kq l0 l1 t110 x48_12 t104 t107 = some true) ∧ Aside0 (kq ≤ kj2) ∧ Aside0 (Kd.R (Kd.int .u8) 5 wc w.heap.size (fun k_ => some k_ ≠ ((.slice Ao18 t107.length co18) : Value).ownBlock ∧ some k_ ≠ ((.slice Ao21 t112.length co21) : Value).ownBlock ∧ some k_ ≠ ((.slice Ao24 t115.length co24) : Value).ownBlock) (.slice Ao16 t104.length co16) t104) ∧ Aside0 (Kd.R (Kd.int .u8) 5 wc w.heap.size (fun k_ => some k_ ≠ ((.slice Ao16 t104.length co16) : Value).ownBlock ∧ some k_ ≠ ((.slice Ao21 t112.length co21) : Value).ownBlock ∧ some k_ ≠ ((.slice Ao24 t115.length co24) : Value).ownBlock) (.slice Ao18 t107.length co18) t107) ∧ Aside0 (Kd.R (Kd.int .u8) 5 wc w.heap.size (fun k_ => some k_ ≠ ((.slice Ao16 t104.length co16) : Value).ownBlock ∧ some k_ ≠ ((.slice Ao18 t107.length co18) : Value).ownBlock ∧ some k_ ≠ ((.slice Ao24 t115.length co24) : Value).ownBlock) (.slice Ao21 t112.length co21) t112) ∧ Aside0 (Kd.R (Kd.int .u8) 5 wc w.heap.size (fun k_ => some k_ ≠ ((.slice Ao16 t104.length co16) : Value).ownBlock ∧ some k_ ≠ ((.slice Ao18 t107.length co18) : Value).ownBlock ∧ some k_ ≠ ((.slice Ao21 t112.length co21) : Value).ownBlock) (.slice Ao24 t115.length co24) t115) ∧ Aside0 (wc.heap[gb111]? = some (.cells #[(.slice Ao16 t104.length co16), (.slice Ao18 t107.length co18)] 44 (0, 0))) ∧ Aside0 (wc.heap[gb119]? = some (.cells #[(.slice Ao21 t112.length co21), (.slice Ao24 t115.length co24)] 44 (0, 0))) ∧ Aside0 (Below w.heap.size w wc))
     case first =>
      have H := HC13.out
      clear HC13
      by_cases c25 : (l0.length : Int) = (l1.length : Int)
      ·rw [if_pos c25] at H
       have c25b0 : ((l0.length : Int) == (l1.length : Int)) = true := beq_iff_eq.mpr c25
       have c25b1 : ((l0.length : Int) != (l1.length : Int)) = false := bne_eq_false_iff_eq.mpr c25
       have c25b2 : (l0.length == l1.length) = true := by first | simpa using c25 | (simp at c25 ⊢; omega)
       clear c25
       (first | rw [c25b0] | (simp only [i64_w, i32_w]; rw [c25b0]) | skip)
       replace H := Option.bind_eq_some_iff.mp H
       obtain ⟨t120, A260, H⟩ := H
       replace H : (if t120 = true then (rubricklaw08_ClashRoots.j1 kj2 l0 l1 t110 false t104 t107) else ((rubrickref06_Leaves.f kj2 l0).bind fun t121 => ((rubrickref06_Root.f kj2 t121).bind fun t124 => ((rubrickref06_Leaves.f kj2 l1).bind fun t125 => ((rubrickref06_Root.f kj2 t125).bind fun t128 => (rubricklaw08_ClashRoots.j1 kj2 l0 l1 t110 (t124.toList == t128.toList) t104 t107)))))) = some true := H
       have A26 := Aside0.mk A260
       clear A260
       by_cases c27 : t120 = true
       ·subst c27
        have H1 : (rubricklaw08_ClashRoots.j1 kj2 l0 l1 t110 false t104 t107) = some true := by rw [if_pos rfl] at H; exact H
        clear H
        have H := H1
        clear H1
        have H' := Aside0.mk H
        clear H
        go_wp2_with (first | (go_at_call 38; (with_reducible refine (rubricklaw08_like.calls kj2 _ _ l0 _ _ l1 true _ ?side1 ?side2 ?side3 ?side4 A26.out).mono ?_); (case side1 => exact Kd.C_below HR0.out (zb2 HB.out GE111.out GE119.out)); (case side2 => exact HC0.out); (case side3 => exact Kd.C_below HR1.out (zb2 HB.out GE111.out GE119.out)); (case side4 => exact HC1.out); rintro e w' ⟨rfl, ⟨nd, rfl⟩⟩))
        go_meet
        case rel => exact ⟨_, (false), (by first | rfl | (simp; done) | (simp [*]; done)), H', ⟨by have := HJ2.out; first | omega | exact Nat.le_refl _⟩, ⟨by (with_reducible repeat (first | apply Kd.R_alloc | apply Kd.R_drewN | apply Kd.R_drew)); exact Kd.R_mono (Kd.R_far (p := ⟨gb119, 1, none⟩) (Kd.R_far (p := ⟨gb119, 0, none⟩) (Kd.R_types HO106.out BK119.out (by decide)) (fun _ hk => hk.2) (.slice Ao21 t112.length co21)) (fun _ hk => hk.2) (.slice Ao24 t115.length co24)) (fun _ hk => ⟨hk.1.1.1, ⟨hk.1.1.2, hk.1.2⟩⟩)⟩, ⟨by (with_reducible repeat (first | apply Kd.R_alloc | apply Kd.R_drewN | apply Kd.R_drew)); exact Kd.R_mono (Kd.R_far (p := ⟨gb119, 1, none⟩) (Kd.R_far (p := ⟨gb119, 0, none⟩) (Kd.R_types HO109.out BK119.out (by decide)) (fun _ hk => hk.2) (.slice Ao21 t112.length co21)) (fun _ hk => hk.2) (.slice Ao24 t115.length co24)) (fun _ hk => ⟨hk.1.1.1, ⟨hk.1.1.2, hk.1.2⟩⟩)⟩, ⟨by (with_reducible repeat (first | apply Kd.R_alloc | apply Kd.R_drewN | apply Kd.R_drew)); exact Kd.R_mono (Kd.R_far (p := ⟨gb119, 1, none⟩) (Kd.R_far (p := ⟨gb119, 0, none⟩) (Kd.R_types HO114.out BK119.out (by decide)) (fun _ hk => hk.2) (.slice Ao21 t112.length co21)) (fun _ hk => hk.2) (.slice Ao24 t115.length co24)) (fun _ hk => ⟨hk.1.1.2, ⟨hk.1.2, hk.1.1.1⟩⟩)⟩, ⟨by (with_reducible repeat (first | apply Kd.R_alloc | apply Kd.R_drewN | apply Kd.R_drew)); exact Kd.R_mono (Kd.R_far (p := ⟨gb119, 1, none⟩) (Kd.R_far (p := ⟨gb119, 0, none⟩) (Kd.R_types HO117.out BK119.out (by decide)) (fun _ hk => hk.2) (.slice Ao21 t112.length co21)) (fun _ hk => hk.2) (.slice Ao24 t115.length co24)) (fun _ hk => ⟨hk.1.1.2, ⟨hk.1.2, hk.1.1.1⟩⟩)⟩, ⟨by (with_reducible repeat (first | refine blk_drewN ?_ _ | refine blk_drew ?_ | refine blk_alloc ?_ _)); refine blk_far ?_ NB111_119.out _; (with_reducible repeat (first | refine blk_drewN ?_ _ | refine blk_drew ?_ | refine blk_alloc ?_ _)); refine blk_far ?_ NB111_119.out _; (with_reducible repeat (first | refine blk_drewN ?_ _ | refine blk_drew ?_ | refine blk_alloc ?_ _)); exact BK111.out⟩, ⟨by (with_reducible repeat (first | refine blk_drewN ?_ _ | refine blk_drew ?_ | refine blk_alloc ?_ _)); refine blk_put (cs := #[.slice Ao21 t112.length co21, .slice none 0 0]) ?_ 1 _ rfl; (with_reducible repeat (first | refine blk_drewN ?_ _ | refine blk_drew ?_ | refine blk_alloc ?_ _)); refine blk_put (cs := #[.slice none 0 0, .slice none 0 0]) ?_ 0 _ rfl; (with_reducible repeat (first | refine blk_drewN ?_ _ | refine blk_drew ?_ | refine blk_alloc ?_ _)); exact BK119.out⟩, ⟨by repeat (first | (with_reducible first | exact HB.out | apply below_alloc | apply pw_below_drewN | apply below_drew1 | refine below_set ?_ GE111.out | refine below_set ?_ GE119.out) | exact HB.out)⟩⟩
       ·replace c27 := Bool.eq_false_iff.mpr c27
        subst c27
        have H1 : ((rubrickref06_Leaves.f kj2 l0).bind fun t121 => ((rubrickref06_Root.f kj2 t121).bind fun t124 => ((rubrickref06_Leaves.f kj2 l1).bind fun t125 => ((rubrickref06_Root.f kj2 t125).bind fun t128 => (rubricklaw08_ClashRoots.j1 kj2 l0 l1 t110 (t124.toList == t128.toList) t104 t107))))) = some true := by rw [if_neg (show ¬ (false = true) by decide)] at H; exact H
        clear H
        have H := H1
        clear H1
        replace H := Option.bind_eq_some_iff.mp H
        obtain ⟨t121, A280, H⟩ := H
        replace H : ((rubrickref06_Root.f kj2 t121).bind fun t124 => ((rubrickref06_Leaves.f kj2 l1).bind fun t125 => ((rubrickref06_Root.f kj2 t125).bind fun t128 => (rubricklaw08_ClashRoots.j1 kj2 l0 l1 t110 (t124.toList == t128.toList) t104 t107)))) = some true := H
        have A28 := Aside0.mk A280
        clear A280
        replace H := Option.bind_eq_some_iff.mp H
        obtain ⟨t124, A290, H⟩ := H
        replace H : ((rubrickref06_Leaves.f kj2 l1).bind fun t125 => ((rubrickref06_Root.f kj2 t125).bind fun t128 => (rubricklaw08_ClashRoots.j1 kj2 l0 l1 t110 (t124.toList == t128.toList) t104 t107))) = some true := H
        have A29 := Aside0.mk A290
        clear A290
        replace H := Option.bind_eq_some_iff.mp H
        obtain ⟨t125, A300, H⟩ := H
        replace H : ((rubrickref06_Root.f kj2 t125).bind fun t128 => (rubricklaw08_ClashRoots.j1 kj2 l0 l1 t110 (t124.toList == t128.toList) t104 t107)) = some true := H
        have A30 := Aside0.mk A300
        clear A300
        replace H := Option.bind_eq_some_iff.mp H
        obtain ⟨t128, A310, H⟩ := H
        replace H : (rubricklaw08_ClashRoots.j1 kj2 l0 l1 t110 (t124.toList == t128.toList) t104 t107) = some true := H
        have A31 := Aside0.mk A310
        clear A310
        have H' := Aside0.mk H
        clear H
        go_wp2_with (first | (go_at_call 38; (with_reducible refine (rubricklaw08_like.calls kj2 _ _ l0 _ _ l1 false _ ?side1 ?side2 ?side3 ?side4 A26.out).mono ?_); (case side1 => exact Kd.C_below HR0.out (zb2 HB.out GE111.out GE119.out)); (case side2 => exact HC0.out); (case side3 => exact Kd.C_below HR1.out (zb2 HB.out GE111.out GE119.out)); (case side4 => exact HC1.out); rintro e w' ⟨rfl, ⟨nd, rfl⟩⟩) | (go_at_call 31; (with_reducible refine (rubrickref06_Leaves.calls kj2 _ _ l0 t121 _ ?side1 ?side2 A28.out).mono ?_); (case side1 => exact Kd.C_below HR0.out (zb2 HB.out GE111.out GE119.out)); (case side2 => exact HC0.out); rintro e w32 ⟨v122, rfl, ho0, hb⟩; have n0_ := Aside0.mk (Kd.R_below (by (with_reducible repeat (first | apply Kd.R_alloc | apply Kd.R_drewN | apply Kd.R_drew)); exact (Kd.R_mono (Kd.R_far (p := ⟨gb119, 1, none⟩) (Kd.R_far (p := ⟨gb119, 0, none⟩) (Kd.R_types HO106.out BK119.out (by decide)) (fun _ hk => hk.2) (.slice Ao21 t112.length co21)) (fun _ hk => hk.2) (.slice Ao24 t115.length co24)) (fun _ h_ => h_.1))) hb); have n1_ := Aside0.mk (Kd.R_below (by (with_reducible repeat (first | apply Kd.R_alloc | apply Kd.R_drewN | apply Kd.R_drew)); exact (Kd.R_mono (Kd.R_far (p := ⟨gb119, 1, none⟩) (Kd.R_far (p := ⟨gb119, 0, none⟩) (Kd.R_types HO109.out BK119.out (by decide)) (fun _ hk => hk.2) (.slice Ao21 t112.length co21)) (fun _ hk => hk.2) (.slice Ao24 t115.length co24)) (fun _ h_ => h_.1))) hb); have n2_ := Aside0.mk (Kd.R_below (by (with_reducible repeat (first | apply Kd.R_alloc | apply Kd.R_drewN | apply Kd.R_drew)); exact (Kd.R_mono (Kd.R_far (p := ⟨gb119, 1, none⟩) (Kd.R_far (p := ⟨gb119, 0, none⟩) (Kd.R_types HO114.out BK119.out (by decide)) (fun _ hk => hk.2) (.slice Ao21 t112.length co21)) (fun _ hk => hk.2) (.slice Ao24 t115.length co24)) (fun _ h_ => h_.1))) hb); have n3_ := Aside0.mk (Kd.R_below (by (with_reducible repeat (first | apply Kd.R_alloc | apply Kd.R_drewN | apply Kd.R_drew)); exact (Kd.R_mono (Kd.R_far (p := ⟨gb119, 1, none⟩) (Kd.R_far (p := ⟨gb119, 0, none⟩) (Kd.R_types HO117.out BK119.out (by decide)) (fun _ hk => hk.2) (.slice Ao21 t112.length co21)) (fun _ hk => hk.2) (.slice Ao24 t115.length co24)) (fun _ h_ => h_.1))) hb); have n4_ := Aside0.mk (Kd.R_lower ho0 (below_size (zb2 HB.out GE111.out GE119.out))); have n5_ := Aside0.mk (blk_below (g := gb111) (o := .cells #[.slice Ao16 t104.length co16, .slice Ao18 t107.length co18] 44 (0, 0)) (by (with_reducible repeat (first | refine blk_drewN ?_ _ | refine blk_drew ?_ | refine blk_alloc ?_ _)); refine blk_far ?_ NB111_119.out _; (with_reducible repeat (first | refine blk_drewN ?_ _ | refine blk_drew ?_ | refine blk_alloc ?_ _)); refine blk_far ?_ NB111_119.out _; (with_reducible repeat (first | refine blk_drewN ?_ _ | refine blk_drew ?_ | refine blk_alloc ?_ _)); exact BK111.out) hb); have n6_ := Aside0.mk (blk_below (g := gb119) (o := .cells #[.slice Ao21 t112.length co21, .slice Ao24 t115.length co24] 44 (0, 0)) (by (with_reducible repeat (first | refine blk_drewN ?_ _ | refine blk_drew ?_ | refine blk_alloc ?_ _)); refine blk_put (cs := #[.slice Ao21 t112.length co21, .slice none 0 0]) ?_ 1 _ rfl; (with_reducible repeat (first | refine blk_drewN ?_ _ | refine blk_drew ?_ | refine blk_alloc ?_ _)); refine blk_put (cs := #[.slice none 0 0, .slice none 0 0]) ?_ 0 _ rfl; (with_reducible repeat (first | refine blk_drewN ?_ _ | refine blk_drew ?_ | refine blk_alloc ?_ _)); exact BK119.out) hb); have n7_ := zS2 HB GE111 GE119 hb; clear HO106; clear HO109; clear HO114; clear HO117; clear BK111; clear BK119; clear HB; have HO106 := n0_; have HO109 := n1_; have HO114 := n2_; have HO117 := n3_; have HO123 := n4_; have BK111 := n5_; have BK119 := n6_; have HB := n7_; clear n0_ n1_ n2_ n3_ n4_ n5_ n6_ n7_; (try clear hb); (try clear hb2); (try clear hk); (try clear hi); (try clear ho0); obtain ⟨Ao33, co33, eo33⟩ := Kd.R_slice HO123.out; subst eo33) | (go_at_call 34; (with_reducible refine (rubrickref06_Root.calls kj2 _ _ t121 t124 _ ?side1 ?side2 A29.out).mono ?_); (case side1 => exact zc (Kd.R_reads' HO123.out).2.2); (case side2 => exact (Kd.R_reads' HO123.out).2.1); rintro e w34 ⟨rfl, hb⟩; have n0_ := zR HO106 hb; have n1_ := zR HO109 hb; have n2_ := zR HO114 hb; have n3_ := zR HO117 hb; have n4_ := zR HO123 hb; have n5_ := zK BK111 hb; have n6_ := zK BK119 hb; have n7_ := zS2 HB GE111 GE119 hb; clear HO106; clear HO109; clear HO114; clear HO117; clear HO123; clear BK111; clear BK119; clear HB; have HO106 := n0_; have HO109 := n1_; have HO114 := n2_; have HO117 := n3_; have HO123 := n4_; have BK111 := n5_; have BK119 := n6_; have HB := n7_; clear n0_ n1_ n2_ n3_ n4_ n5_ n6_ n7_; (try clear hb); (try clear hb2); (try clear hk); (try clear hi)) | (go_at_call 31; (with_reducible refine (rubrickref06_Leaves.calls kj2 _ _ l1 t125 _ ?side1 ?side2 A30.out).mono ?_); (case side1 => exact zc (Kd.C_below HR1.out HB.out)); (case side2 => exact HC1.out); rintro e w35 ⟨v126, rfl, ho0, hb⟩; have n0_ := zR HO106 hb; have n1_ := zR HO109 hb; have n2_ := zR HO114 hb; have n3_ := zR HO117 hb; have n4_ := Aside0.mk (Kd.R_elder' (zr HO123.out) (Kd.R_base ho0) hb); have n5_ := Aside0.mk (Kd.R_lower (Kd.R_new' ho0 (Kd.R_lt (zr HO123.out))) (below_size (zb2 HB.out GE111.out GE119.out))); have n6_ := zK BK111 hb; have n7_ := zK BK119 hb; have n8_ := zS2 HB GE111 GE119 hb; clear HO106; clear HO109; clear HO114; clear HO117; clear HO123; clear BK111; clear BK119; clear HB; have HO106 := n0_; have HO109 := n1_; have HO114 := n2_; have HO117 := n3_; have HO123 := n4_; have HO127 := n5_; have BK111 := n6_; have BK119 := n7_; have HB := n8_; clear n0_ n1_ n2_ n3_ n4_ n5_ n6_ n7_ n8_; (try clear hb); (try clear hb2); (try clear hk); (try clear hi); (try clear ho0); obtain ⟨Ao36, co36, eo36⟩ := Kd.R_slice HO127.out; subst eo36) | (go_at_call 34; (with_reducible refine (rubrickref06_Root.calls kj2 _ _ t125 t128 _ ?side1 ?side2 A31.out).mono ?_); (case side1 => exact zc (Kd.R_reads' HO127.out).2.2); (case side2 => exact (Kd.R_reads' HO127.out).2.1); rintro e w37 ⟨rfl, hb⟩; have n0_ := zR HO106 hb; have n1_ := zR HO109 hb; have n2_ := zR HO114 hb; have n3_ := zR HO117 hb; have n4_ := zR HO123 hb; have n5_ := zR HO127 hb; have n6_ := zK BK111 hb; have n7_ := zK BK119 hb; have n8_ := zS2 HB GE111 GE119 hb; clear HO106; clear HO109; clear HO114; clear HO117; clear HO123; clear HO127; clear BK111; clear BK119; clear HB; have HO106 := n0_; have HO109 := n1_; have HO114 := n2_; have HO117 := n3_; have HO123 := n4_; have HO127 := n5_; have BK111 := n6_; have BK119 := n7_; have HB := n8_; clear n0_ n1_ n2_ n3_ n4_ n5_ n6_ n7_ n8_; (try clear hb); (try clear hb2); (try clear hk); (try clear hi)))
        go_meet
        case rel => exact ⟨_, ((t124.toList == t128.toList)), (by first | rfl | (simp; done) | (simp [*]; done)), H', ⟨by have := HJ2.out; first | omega | exact Nat.le_refl _⟩, ⟨by (with_reducible repeat (first | apply Kd.R_alloc | apply Kd.R_drewN | apply Kd.R_drew)); exact Kd.R_mono HO106.out (fun _ hk => ⟨hk.1.1, ⟨hk.1.2, hk.2⟩⟩)⟩, ⟨by (with_reducible repeat (first | apply Kd.R_alloc | apply Kd.R_drewN | apply Kd.R_drew)); exact Kd.R_mono HO109.out (fun _ hk => ⟨hk.1.1, ⟨hk.1.2, hk.2⟩⟩)⟩, ⟨by (with_reducible repeat (first | apply Kd.R_alloc | apply Kd.R_drewN | apply Kd.R_drew)); exact Kd.R_mono HO114.out (fun _ hk => ⟨hk.1.2, ⟨hk.2, hk.1.1⟩⟩)⟩, ⟨by (with_reducible repeat (first | apply Kd.R_alloc | apply Kd.R_drewN | apply Kd.R_drew)); exact Kd.R_mono HO117.out (fun _ hk => ⟨hk.1.2, ⟨hk.2, hk.1.1⟩⟩)⟩, ⟨by (with_reducible repeat (first | refine blk_drewN ?_ _ | refine blk_drew ?_ | refine blk_alloc ?_ _)); exact BK111.out⟩, ⟨by (with_reducible repeat (first | refine blk_drewN ?_ _ | refine blk_drew ?_ | refine blk_alloc ?_ _)); exact BK119.out⟩, ⟨by repeat (first | (with_reducible first | exact HB.out | apply below_alloc | apply pw_below_drewN | apply below_drew1 | refine below_set ?_ GE111.out | refine below_set ?_ GE119.out) | exact HB.out)⟩⟩
      ·rw [if_neg c25] at H
       have c25b0 : ((l0.length : Int) == (l1.length : Int)) = false := beq_eq_false_iff_ne.mpr c25
       have c25b1 : ((l0.length : Int) != (l1.length : Int)) = true := bne_iff_ne.mpr c25
       have c25b2 : (l0.length == l1.length) = false := by first | simpa using c25 | (simp at c25 ⊢; omega)
       (first | rw [c25b0] | (simp only [i64_w, i32_w]; rw [c25b0]) | skip)
       have H' := Aside0.mk H
       clear H
       go_wp2
       go_meet
       case rel => exact ⟨_, (false), (by first | rfl | (simp; done) | (simp [*]; done)), H', ⟨by have := HJ2.out; first | omega | exact Nat.le_refl _⟩, ⟨by (with_reducible repeat (first | apply Kd.R_alloc | apply Kd.R_drewN | apply Kd.R_drew)); exact Kd.R_mono (Kd.R_far (p := ⟨gb119, 1, none⟩) (Kd.R_far (p := ⟨gb119, 0, none⟩) (Kd.R_types HO106.out BK119.out (by decide)) (fun _ hk => hk.2) (.slice Ao21 t112.length co21)) (fun _ hk => hk.2) (.slice Ao24 t115.length co24)) (fun _ hk => ⟨hk.1.1.1, ⟨hk.1.1.2, hk.1.2⟩⟩)⟩, ⟨by (with_reducible repeat (first | apply Kd.R_alloc | apply Kd.R_drewN | apply Kd.R_drew)); exact Kd.R_mono (Kd.R_far (p := ⟨gb119, 1, none⟩) (Kd.R_far (p := ⟨gb119, 0, none⟩) (Kd.R_types HO109.out BK119.out (by decide)) (fun _ hk => hk.2) (.slice Ao21 t112.length co21)) (fun _ hk => hk.2) (.slice Ao24 t115.length co24)) (fun _ hk => ⟨hk.1.1.1, ⟨hk.1.1.2, hk.1.2⟩⟩)⟩, ⟨by (with_reducible repeat (first | apply Kd.R_alloc | apply Kd.R_drewN | apply Kd.R_drew)); exact Kd.R_mono (Kd.R_far (p := ⟨gb119, 1, none⟩) (Kd.R_far (p := ⟨gb119, 0, none⟩) (Kd.R_types HO114.out BK119.out (by decide)) (fun _ hk => hk.2) (.slice Ao21 t112.length co21)) (fun _ hk => hk.2) (.slice Ao24 t115.length co24)) (fun _ hk => ⟨hk.1.1.2, ⟨hk.1.2, hk.1.1.1⟩⟩)⟩, ⟨by (with_reducible repeat (first | apply Kd.R_alloc | apply Kd.R_drewN | apply Kd.R_drew)); exact Kd.R_mono (Kd.R_far (p := ⟨gb119, 1, none⟩) (Kd.R_far (p := ⟨gb119, 0, none⟩) (Kd.R_types HO117.out BK119.out (by decide)) (fun _ hk => hk.2) (.slice Ao21 t112.length co21)) (fun _ hk => hk.2) (.slice Ao24 t115.length co24)) (fun _ hk => ⟨hk.1.1.2, ⟨hk.1.2, hk.1.1.1⟩⟩)⟩, ⟨by (with_reducible repeat (first | refine blk_drewN ?_ _ | refine blk_drew ?_ | refine blk_alloc ?_ _)); refine blk_far ?_ NB111_119.out _; (with_reducible repeat (first | refine blk_drewN ?_ _ | refine blk_drew ?_ | refine blk_alloc ?_ _)); refine blk_far ?_ NB111_119.out _; (with_reducible repeat (first | refine blk_drewN ?_ _ | refine blk_drew ?_ | refine blk_alloc ?_ _)); exact BK111.out⟩, ⟨by (with_reducible repeat (first | refine blk_drewN ?_ _ | refine blk_drew ?_ | refine blk_alloc ?_ _)); refine blk_put (cs := #[.slice Ao21 t112.length co21, .slice none 0 0]) ?_ 1 _ rfl; (with_reducible repeat (first | refine blk_drewN ?_ _ | refine blk_drew ?_ | refine blk_alloc ?_ _)); refine blk_put (cs := #[.slice none 0 0, .slice none 0 0]) ?_ 0 _ rfl; (with_reducible repeat (first | refine blk_drewN ?_ _ | refine blk_drew ?_ | refine blk_alloc ?_ _)); exact BK119.out⟩, ⟨by repeat (first | (with_reducible first | exact HB.out | apply below_alloc | apply pw_below_drewN | apply below_drew1 | refine below_set ?_ GE111.out | refine below_set ?_ GE119.out) | exact HB.out)⟩⟩
     case rest =>
      clear HC13
      try clear c1
      try clear c2
      try clear p2
      try clear c3
      try clear c5
      try clear c7
      try clear c10
      try clear c12
      try clear c22
      try clear c25
      try clear c25b0
      try clear c25b1
      try clear c25b2
      try clear c26
      try clear c27
      try clear c37
      try clear hcz17_0
      try clear hcz17_1
      try clear hcz23_0
      try clear hcz23_1
      try clear hfz17_0
      try clear hfz17_1
      try clear hfz23_0
      try clear hfz23_1
      try clear p2
      obtain ⟨kq, x48_12, rfl, HA, HJ12, HO_112000, HO_112001, HO_120000, HO_120001, BK111, BK119, HB⟩ := hcut
      cases kq with
      | zero => exact absurd HA.out (by simp [rubricklaw08_ClashRoots.j1])
      | succ kj12 =>
       have H := HA.out
       clear HA
       simp only [rubricklaw08_ClashRoots.j1] at H
       by_cases c38 : x48_12 = true
       ·subst c38
        have H1 : (if t110 = true then ((seal_Is.f t104 t107).bind fun t129 => (if t129 = true then ((rubricklaw08_knows.f kj12).bind fun t130 => (some t130)) else (some false))) else (some false)) = some true := by rw [if_pos rfl] at H; exact H
        clear H
        have H := H1
        clear H1
        by_cases c39 : t110 = true
        ·subst c39
         have H1 : ((seal_Is.f t104 t107).bind fun t129 => (if t129 = true then ((rubricklaw08_knows.f kj12).bind fun t130 => (some t130)) else (some false))) = some true := by rw [if_pos rfl] at H; exact H
         clear H
         have H := H1
         clear H1
         replace H := Option.bind_eq_some_iff.mp H
         obtain ⟨t129, A400, H⟩ := H
         replace H : (if t129 = true then ((rubricklaw08_knows.f kj12).bind fun t130 => (some t130)) else (some false)) = some true := H
         have A40 := Aside0.mk A400
         clear A400
         by_cases c41 : t129 = true
         ·subst c41
          have H1 : ((rubricklaw08_knows.f kj12).bind fun t130 => (some t130)) = some true := by rw [if_pos rfl] at H; exact H
          clear H
          have H := H1
          clear H1
          replace H := Option.bind_eq_some_iff.mp H
          obtain ⟨t130, A420, H⟩ := H
          replace H : (some t130) = some true := H
          have A42 := Aside0.mk A420
          clear A420
          have HT2_ := Aside0.mk (Option.some.inj H)
          clear H
          have hnb43 := NB111_119.out
          have hnc43 := NB119_111.out
          have hcz44_0 : wc.cell? ⟨gb111, 0, none⟩ = some (.slice Ao16 t104.length co16) := (blk_cell BK111.out 0).trans rfl
          have hcz44_1 : wc.cell? ⟨gb111, 1, none⟩ = some (.slice Ao18 t107.length co18) := (blk_cell BK111.out 1).trans rfl
          have hfz44_0 := blk_frozen BK111.out 0
          have hfz44_1 := blk_frozen BK111.out 1
          go_wp2_with (first | (go_at_call 35; (with_reducible refine (seal_Is.calls _ _ t104 _ _ t107 true _ ?side5 ?side1 ?side2 ?side3 ?side4 A40.out).mono ?_); (case side1 => exact zc (Kd.R_reads' HO_112000.out).2.2); (case side2 => exact (Kd.R_reads' HO_112000.out).2.1); (case side3 => exact zc (Kd.R_reads' HO_112001.out).2.2); (case side4 => exact (Kd.R_reads' HO_112001.out).2.1); (case side5 => exact gw_step hG_ (zb2 HB.out GE111.out GE119.out)); rintro e w45 ⟨rfl, hb⟩; have n0_ := zR HO_112000 hb; have n1_ := zR HO_112001 hb; have n2_ := zR HO_120000 hb; have n3_ := zR HO_120001 hb; have n4_ := zK BK111 hb; have n5_ := zK BK119 hb; have n6_ := zS2 HB GE111 GE119 hb; clear HO_112000; clear HO_112001; clear HO_120000; clear HO_120001; clear BK111; clear BK119; clear HB; have HO_112000 := n0_; have HO_112001 := n1_; have HO_120000 := n2_; have HO_120001 := n3_; have BK111 := n4_; have BK119 := n5_; have HB := n6_; clear n0_ n1_ n2_ n3_ n4_ n5_ n6_; (try clear hb); (try clear hb2); (try clear hk); (try clear hi)) | (go_at_call 26; (with_reducible refine (rubricklaw08_knows.calls kj12  t130 _ ?side1 A42.out).mono ?_); (case side1 => exact gw_step hG_ (zb2 HB.out GE111.out GE119.out)); rintro e w46 ⟨rfl, hb⟩; have n0_ := zR HO_112000 hb; have n1_ := zR HO_112001 hb; have n2_ := zR HO_120000 hb; have n3_ := zR HO_120001 hb; have n4_ := zK BK111 hb; have n5_ := zK BK119 hb; have n6_ := zS2 HB GE111 GE119 hb; clear HO_112000; clear HO_112001; clear HO_120000; clear HO_120001; clear BK111; clear BK119; clear HB; have HO_112000 := n0_; have HO_112001 := n1_; have HO_120000 := n2_; have HO_120001 := n3_; have BK111 := n4_; have BK119 := n5_; have HB := n6_; clear n0_ n1_ n2_ n3_ n4_ n5_ n6_; (try clear hb); (try clear hb2); (try clear hk); (try clear hi)))
          go_ret
          exact ⟨by first | rfl | (simp [errW_none, errW_some] <;> rfl) | exact congrArg (fun b_ : Bool => Ending.returned (Value.bool b_)) HT2_.out | (simp [*, errW_none, errW_some] <;> rfl), by repeat (first | (with_reducible first | exact HB.out | apply below_alloc | apply pw_below_drewN | apply below_drew1 | refine below_set ?_ GE111.out | refine below_set ?_ GE119.out) | exact HB.out)⟩
         ·replace c41 := Bool.eq_false_iff.mpr c41
          subst c41
          have H1 : (some false) = some true := by rw [if_neg (show ¬ (false = true) by decide)] at H; exact H
          clear H
          have H := H1
          clear H1
          cases H
        ·replace c39 := Bool.eq_false_iff.mpr c39
         subst c39
         have H1 : (some false) = some true := by rw [if_neg (show ¬ (false = true) by decide)] at H; exact H
         clear H
         have H := H1
         clear H1
         cases H
       ·replace c38 := Bool.eq_false_iff.mpr c38
        subst c38
        have H1 : (if t110 = true then ((seal_Is.f t104 t107).bind fun t131 => (if t131 = true then ((rubricklaw08_like.f kj12 l0 l1).bind fun t132 => (if t132 = true then (some false) else ((rubricklaw08_knows.f kj12).bind fun t133 => (some t133)))) else (some false))) else ((rubricklaw08_knows.f kj12).bind fun t134 => (some t134))) = some true := by rw [if_neg (show ¬ (false = true) by decide)] at H; exact H
        clear H
        have H := H1
        clear H1
        by_cases c47 : t110 = true
        ·subst c47
         have H1 : ((seal_Is.f t104 t107).bind fun t131 => (if t131 = true then ((rubricklaw08_like.f kj12 l0 l1).bind fun t132 => (if t132 = true then (some false) else ((rubricklaw08_knows.f kj12).bind fun t133 => (some t133)))) else (some false))) = some true := by rw [if_pos rfl] at H; exact H
         clear H
         have H := H1
         clear H1
         replace H := Option.bind_eq_some_iff.mp H
         obtain ⟨t131, A480, H⟩ := H
         replace H : (if t131 = true then ((rubricklaw08_like.f kj12 l0 l1).bind fun t132 => (if t132 = true then (some false) else ((rubricklaw08_knows.f kj12).bind fun t133 => (some t133)))) else (some false)) = some true := H
         have A48 := Aside0.mk A480
         clear A480
         by_cases c49 : t131 = true
         ·subst c49
          have H1 : ((rubricklaw08_like.f kj12 l0 l1).bind fun t132 => (if t132 = true then (some false) else ((rubricklaw08_knows.f kj12).bind fun t133 => (some t133)))) = some true := by rw [if_pos rfl] at H; exact H
          clear H
          have H := H1
          clear H1
          replace H := Option.bind_eq_some_iff.mp H
          obtain ⟨t132, A500, H⟩ := H
          replace H : (if t132 = true then (some false) else ((rubricklaw08_knows.f kj12).bind fun t133 => (some t133))) = some true := H
          have A50 := Aside0.mk A500
          clear A500
          by_cases c51 : t132 = true
          ·subst c51
           have H1 : (some false) = some true := by rw [if_pos rfl] at H; exact H
           clear H
           have H := H1
           clear H1
           cases H
          ·replace c51 := Bool.eq_false_iff.mpr c51
           subst c51
           have H1 : ((rubricklaw08_knows.f kj12).bind fun t133 => (some t133)) = some true := by rw [if_neg (show ¬ (false = true) by decide)] at H; exact H
           clear H
           have H := H1
           clear H1
           replace H := Option.bind_eq_some_iff.mp H
           obtain ⟨t133, A520, H⟩ := H
           replace H : (some t133) = some true := H
           have A52 := Aside0.mk A520
           clear A520
           have HT2_ := Aside0.mk (Option.some.inj H)
           clear H
           have hnb53 := NB111_119.out
           have hnc53 := NB119_111.out
           have hcz54_0 : wc.cell? ⟨gb111, 0, none⟩ = some (.slice Ao16 t104.length co16) := (blk_cell BK111.out 0).trans rfl
           have hcz54_1 : wc.cell? ⟨gb111, 1, none⟩ = some (.slice Ao18 t107.length co18) := (blk_cell BK111.out 1).trans rfl
           have hfz54_0 := blk_frozen BK111.out 0
           have hfz54_1 := blk_frozen BK111.out 1
           go_wp2_with (first | (go_at_call 35; (with_reducible refine (seal_Is.calls _ _ t104 _ _ t107 true _ ?side5 ?side1 ?side2 ?side3 ?side4 A48.out).mono ?_); (case side1 => exact zc (Kd.R_reads' HO_112000.out).2.2); (case side2 => exact (Kd.R_reads' HO_112000.out).2.1); (case side3 => exact zc (Kd.R_reads' HO_112001.out).2.2); (case side4 => exact (Kd.R_reads' HO_112001.out).2.1); (case side5 => exact gw_step hG_ (zb2 HB.out GE111.out GE119.out)); rintro e w55 ⟨rfl, hb⟩; have n0_ := zR HO_112000 hb; have n1_ := zR HO_112001 hb; have n2_ := zR HO_120000 hb; have n3_ := zR HO_120001 hb; have n4_ := zK BK111 hb; have n5_ := zK BK119 hb; have n6_ := zS2 HB GE111 GE119 hb; clear HO_112000; clear HO_112001; clear HO_120000; clear HO_120001; clear BK111; clear BK119; clear HB; have HO_112000 := n0_; have HO_112001 := n1_; have HO_120000 := n2_; have HO_120001 := n3_; have BK111 := n4_; have BK119 := n5_; have HB := n6_; clear n0_ n1_ n2_ n3_ n4_ n5_ n6_; (try clear hb); (try clear hb2); (try clear hk); (try clear hi)) | (go_at_call 38; (with_reducible refine (rubricklaw08_like.calls kj12 _ _ l0 _ _ l1 false _ ?side1 ?side2 ?side3 ?side4 A50.out).mono ?_); (case side1 => exact zc (Kd.C_below HR0.out HB.out)); (case side2 => exact HC0.out); (case side3 => exact zc (Kd.C_below HR1.out HB.out)); (case side4 => exact HC1.out); rintro e w' ⟨rfl, ⟨nd, rfl⟩⟩) | (go_at_call 26; (with_reducible refine (rubricklaw08_knows.calls kj12  t133 _ ?side1 A52.out).mono ?_); (case side1 => exact gw_step hG_ (zb2 HB.out GE111.out GE119.out)); rintro e w56 ⟨rfl, hb⟩; have n0_ := zR HO_112000 hb; have n1_ := zR HO_112001 hb; have n2_ := zR HO_120000 hb; have n3_ := zR HO_120001 hb; have n4_ := zK BK111 hb; have n5_ := zK BK119 hb; have n6_ := zS2 HB GE111 GE119 hb; clear HO_112000; clear HO_112001; clear HO_120000; clear HO_120001; clear BK111; clear BK119; clear HB; have HO_112000 := n0_; have HO_112001 := n1_; have HO_120000 := n2_; have HO_120001 := n3_; have BK111 := n4_; have BK119 := n5_; have HB := n6_; clear n0_ n1_ n2_ n3_ n4_ n5_ n6_; (try clear hb); (try clear hb2); (try clear hk); (try clear hi)))
           go_ret
           exact ⟨by first | rfl | (simp [errW_none, errW_some] <;> rfl) | exact congrArg (fun b_ : Bool => Ending.returned (Value.bool b_)) HT2_.out | (simp [*, errW_none, errW_some] <;> rfl), by repeat (first | (with_reducible first | exact HB.out | apply below_alloc | apply pw_below_drewN | apply below_drew1 | refine below_set ?_ GE111.out | refine below_set ?_ GE119.out) | exact HB.out)⟩
         ·replace c49 := Bool.eq_false_iff.mpr c49
          subst c49
          have H1 : (some false) = some true := by rw [if_neg (show ¬ (false = true) by decide)] at H; exact H
          clear H
          have H := H1
          clear H1
          cases H
        ·replace c47 := Bool.eq_false_iff.mpr c47
         subst c47
         have H1 : ((rubricklaw08_knows.f kj12).bind fun t134 => (some t134)) = some true := by rw [if_neg (show ¬ (false = true) by decide)] at H; exact H
         clear H
         have H := H1
         clear H1
         replace H := Option.bind_eq_some_iff.mp H
         obtain ⟨t134, A570, H⟩ := H
         replace H : (some t134) = some true := H
         have A57 := Aside0.mk A570
         clear A570
         have HT2_ := Aside0.mk (Option.some.inj H)
         clear H
         go_wp2_with (first | (go_at_call 26; (with_reducible refine (rubricklaw08_knows.calls kj12  t134 _ ?side1 A57.out).mono ?_); (case side1 => exact gw_step hG_ (zb2 HB.out GE111.out GE119.out)); rintro e w58 ⟨rfl, hb⟩; have n0_ := zR HO_112000 hb; have n1_ := zR HO_112001 hb; have n2_ := zR HO_120000 hb; have n3_ := zR HO_120001 hb; have n4_ := zK BK111 hb; have n5_ := zK BK119 hb; have n6_ := zS2 HB GE111 GE119 hb; clear HO_112000; clear HO_112001; clear HO_120000; clear HO_120001; clear BK111; clear BK119; clear HB; have HO_112000 := n0_; have HO_112001 := n1_; have HO_120000 := n2_; have HO_120001 := n3_; have BK111 := n4_; have BK119 := n5_; have HB := n6_; clear n0_ n1_ n2_ n3_ n4_ n5_ n6_; (try clear hb); (try clear hb2); (try clear hk); (try clear hi)))
         go_ret
         exact ⟨by first | rfl | (simp [errW_none, errW_some] <;> rfl) | exact congrArg (fun b_ : Bool => Ending.returned (Value.bool b_)) HT2_.out | (simp [*, errW_none, errW_some] <;> rfl), by repeat (first | (with_reducible first | exact HB.out | apply below_alloc | apply pw_below_drewN | apply below_drew1 | refine below_set ?_ GE111.out | refine below_set ?_ GE119.out) | exact HB.out)⟩
end Go.Proofs.YtpmefpdafkbphaaDoor.PClashRoots

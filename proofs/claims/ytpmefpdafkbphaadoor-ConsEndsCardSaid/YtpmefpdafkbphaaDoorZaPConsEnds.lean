import Derived.Test.YtpmefpdafkbphaaDoorProg
import Derived.Below
import Derived.Deep.Draws
import Derived.Deep.AppendLies
import Derived.Maps.AppendAt
import Derived.OwnWalk
import Derived.Laws.BytesArg
import Derived.Laws.MakeOwn
import Derived.Laws.OwnMore
import Derived.Deep.OwnRows
import Derived.Tactics
import Derived.Lib.ConvBytes
import Derived.Laws.Slices
import Derived.WalkKit
import Derived.KernelRfl
import Derived.RowKit3
import Derived.Deep.LoopGhost
import Derived.Deep.QuietTactic
import Derived.BigQuiet
import Derived.WideLaws
import Derived.Deep.DeepCutAuto
import Derived.Deep.CutBlock
import Derived.Deep.RegionHeld3
import Derived.Laws.Rows
import Derived.Lib.AppendStr
import Derived.ArgAppend
import Derived.Laws.IdiomCopy
import Derived.OrdersHeld
import Derived.Laws.BitsLemmas
import Derived.RowKit
import Derived.WalkMore
import Derived.Test.YtpmefpdafkbphaaDoorZaHShaD
import Derived.Test.YtpmefpdafkbphaaDoorZaPS
import Derived.Test.YtpmefpdafkbphaaDoorZaPR
import Derived.Test.YtpmefpdafkbphaaDoorZaPT
import Derived.Test.YtpmefpdafkbphaaDoorZaPB
import Derived.Test.YtpmefpdafkbphaaDoorZaHNode
import Derived.Test.YtpmefpdafkbphaaDoorZaPC
import Derived.Test.YtpmefpdafkbphaaDoorZaPP
import Derived.Test.YtpmefpdafkbphaaDoorZaHProve
import Derived.Test.YtpmefpdafkbphaaDoorZaHCheck
import Derived.Test.YtpmefpdafkbphaaDoorZaPK
import Derived.Test.YtpmefpdafkbphaaDoorZaWWords
import Derived.Test.YtpmefpdafkbphaaDoorZaWLast
import Derived.Test.YtpmefpdafkbphaaDoorZaWTab
import Derived.Test.YtpmefpdafkbphaaDoorZaWApart
import Derived.Test.YtpmefpdafkbphaaDoorZaWFoot
import Derived.Test.YtpmefpdafkbphaaDoorZaWKept
import Derived.Test.YtpmefpdafkbphaaDoorZaWShare
import Derived.Test.YtpmefpdafkbphaaDoorZaWN
import Derived.Laws.StructEq
import Derived.Test.YtpmefpdafkbphaaDoorZaWRepsOne
import Derived.Test.YtpmefpdafkbphaaDoorZaWInv
import Derived.Test.YtpmefpdafkbphaaDoorZaWGuard
import Derived.Test.YtpmefpdafkbphaaDoorZaWNEv
import Derived.Test.YtpmefpdafkbphaaDoorZaWMore
-- PRINTED by print.py (a twelfth state) out of the translation. Not trusted: Lean checks it.
namespace Go.Proofs.YtpmefpdafkbphaaDoor.PConsEnds
open Go.RowKit  Go.Proofs.YtpmefpdafkbphaaDoor.HSha Go.Proofs.YtpmefpdafkbphaaDoor.PS Go.Proofs.YtpmefpdafkbphaaDoor.PR Go.Proofs.YtpmefpdafkbphaaDoor.PT Go.Proofs.YtpmefpdafkbphaaDoor.PB Go.Proofs.YtpmefpdafkbphaaDoor.HNode Go.Proofs.YtpmefpdafkbphaaDoor.PC Go.Proofs.YtpmefpdafkbphaaDoor.PP Go.Proofs.YtpmefpdafkbphaaDoor.HProve Go.Proofs.YtpmefpdafkbphaaDoor.HCheck Go.Proofs.YtpmefpdafkbphaaDoor.PK Go.Proofs.YtpmefpdafkbphaaDoorW.PrintWords Go.Proofs.YtpmefpdafkbphaaDoorW.PrintLast Go.Proofs.YtpmefpdafkbphaaDoorW.PrintMore
attribute [local go_sem] max2_int min2_int max_two min_two max_three min_three max_four min_four   -- for this text's walks alone
set_option linter.unusedVariables false
set_option linter.unusedSimpArgs false
def errW : Option Int → Value
 | none => .nilIface
 | some c => .iface 0 (.int .i64 c)
theorem errW_none : errW none = .nilIface := rfl
theorem errW_some (c : Int) : errW (some c) = .iface 0 (.int .i64 c) := rfl
theorem info9 : (Tryd.prog.info? 9).map (fun i => (i.zero, i.size, i.bytes)) = some (some (.string ⟨#[]⟩), 1, 16) := by kernel_rfl
-- the values' own types
def rd_L1 (xs : List (List Int)) (i : Int) : (List Int) := xs.getD i.toNat ([] : List Int)
theorem at_L1 {w : World} {A : Option Addr} {n : Nat} {xs : List (List Int)} (h : Kd.C (Kd.slice 5 (Kd.int .u8)) w A n xs) (i : Int) (h0 : 0 ≤ i) (h1 : i < n) : ∃ ad A0 c0, A = some ad ∧ w.cell? (ad.add i.toNat) = some (.slice A0 (rd_L1 xs i).length c0) ∧ (rd_L1 xs i).length ≤ c0 ∧ (Kd.int .u8).C w A0 (rd_L1 xs i).length (rd_L1 xs i) := by
 obtain ⟨ad, c, e, _, hK, hc0⟩ := Kd.C_get h ([] : List Int) i h0 h1
 have hc : ∀ j u, c[j]? = some u → w.cell? (ad.add (i.toNat * 1 + j)) = some u := hc0
 obtain ⟨A0, c0, rfl, l0, g0⟩ := hK
 exact ⟨ad, A0, c0, e, by have hq := hc 0 _ rfl; rwa [Nat.mul_one, Nat.add_zero] at hq, l0, g0⟩
end Go.Proofs.YtpmefpdafkbphaaDoor.PConsEnds
namespace Go.Proofs.YtpmefpdafkbphaaDoor.PConsEnds
open Go.RowKit  Go.Proofs.YtpmefpdafkbphaaDoor.HSha Go.Proofs.YtpmefpdafkbphaaDoor.PS Go.Proofs.YtpmefpdafkbphaaDoor.PR Go.Proofs.YtpmefpdafkbphaaDoor.PT Go.Proofs.YtpmefpdafkbphaaDoor.PB Go.Proofs.YtpmefpdafkbphaaDoor.HNode Go.Proofs.YtpmefpdafkbphaaDoor.PC Go.Proofs.YtpmefpdafkbphaaDoor.PP Go.Proofs.YtpmefpdafkbphaaDoor.HProve Go.Proofs.YtpmefpdafkbphaaDoor.HCheck Go.Proofs.YtpmefpdafkbphaaDoor.PK Go.Proofs.YtpmefpdafkbphaaDoorW.PrintWords Go.Proofs.YtpmefpdafkbphaaDoorW.PrintLast Go.Proofs.YtpmefpdafkbphaaDoorW.PrintMore
attribute [local go_sem] max2_int min2_int max_two min_two max_three min_three max_four min_four   -- for this text's walks alone
set_option linter.unusedVariables false
set_option linter.unusedSimpArgs false
/-! ### rubricklaw07_ConsEnds: function 7 -/
def rubricklaw07_ConsEnds.j0 : Nat → ByteArray → Int → ByteArray → ByteArray → Bool → Option (Bool)
 | 0, _, _, _, _, _ => none
 | k + 1, x1, x6, x7, x9, x60 => if x60 = true then (if (x1.size : Int) = 32 then (some false) else ((rubricklaw07_knows.f k).bind fun t116 => (some t116))) else ((cons_Check.f k x6 x6 x7 x7 ([] : List ByteArray)).bind fun t117 => (if t117 = 0 then ((cons_Check.f k 0 x6 x9 x7 ([] : List ByteArray)).bind fun t118 => (if t118 = 0 then ((cons_Check.f k x6 x6 x7 x7 (([x1] : List ByteArray))).bind fun t122 => (if t122 = 6 then ((cons_Check.f k 0 x6 x9 x7 (([x1] : List ByteArray))).bind fun t126 => (if t126 = 6 then ((rubricklaw07_knows.f k).bind fun t127 => (some t127)) else (some false))) else (some false))) else (some false))) else (some false)))
def rubricklaw07_ConsEnds.f (k : Nat) (l0 : List (List Int)) (a1 : ByteArray) : Option (Bool) := (rubricklaw07_digests.f k l0).bind fun t101 => ((tree_Root.f k t101).bind fun bt104 => ((tree_Root.f k ([] : List ByteArray)).bind fun bt106 => ((cons_Prove.f k t101 (t101.length : Int)).bind fun bt108 => ((cons_Prove.f k t101 0).bind fun bt112 => (if bt108.2 = 0 then (if bt112.2 = 0 then (if (bt108.1.length : Int) = 0 then (if (bt112.1.length : Int) = 0 then (rubricklaw07_ConsEnds.j0 k a1 (t101.length : Int) bt104.1 bt106.1 ((a1.size : Int) != 32)) else (rubricklaw07_ConsEnds.j0 k a1 (t101.length : Int) bt104.1 bt106.1 true)) else (rubricklaw07_ConsEnds.j0 k a1 (t101.length : Int) bt104.1 bt106.1 true)) else (rubricklaw07_ConsEnds.j0 k a1 (t101.length : Int) bt104.1 bt106.1 true)) else (rubricklaw07_ConsEnds.j0 k a1 (t101.length : Int) bt104.1 bt106.1 true))))))
set_option maxHeartbeats 8000000 in
set_option maxRecDepth 100000 in
theorem rubricklaw07_ConsEnds.calls (k : Nat) (A0 : Option Addr) (c0 : Nat) (l0 : List (List Int)) (a1 : ByteArray) (r : Bool) (w : World) (hG_ : Aside0 (GW w)) (hr0 : Kd.C (Kd.slice 5 (Kd.int .u8)) w A0 l0.length l0) (hc0 : l0.length ≤ c0) (h : rubricklaw07_ConsEnds.f k l0 a1 = some r) (hT_ : r = true) :
  Calls Tryd.prog 7 #[.slice A0 l0.length c0, .string a1] w fun e w' => e = .returned (.bool r) ∧ Below w.heap.size w w' := by
 have HR0 := Aside0.mk hr0
 have HC0 := Aside0.mk hc0
 clear hr0 hc0
 have HB := Aside0.mk (Below.refl w.heap.size w)
 subst hT_
 have H : ((rubricklaw07_digests.f k l0).bind fun t101 => ((tree_Root.f k t101).bind fun bt104 => ((tree_Root.f k ([] : List ByteArray)).bind fun bt106 => ((cons_Prove.f k t101 (t101.length : Int)).bind fun bt108 => ((cons_Prove.f k t101 0).bind fun bt112 => (if bt108.2 = 0 then (if bt112.2 = 0 then (if (bt108.1.length : Int) = 0 then (if (bt112.1.length : Int) = 0 then (rubricklaw07_ConsEnds.j0 k a1 (t101.length : Int) bt104.1 bt106.1 ((a1.size : Int) != 32)) else (rubricklaw07_ConsEnds.j0 k a1 (t101.length : Int) bt104.1 bt106.1 true)) else (rubricklaw07_ConsEnds.j0 k a1 (t101.length : Int) bt104.1 bt106.1 true)) else (rubricklaw07_ConsEnds.j0 k a1 (t101.length : Int) bt104.1 bt106.1 true)) else (rubricklaw07_ConsEnds.j0 k a1 (t101.length : Int) bt104.1 bt106.1 true))))))) = some true := h
 clear h
 replace H := Option.bind_eq_some_iff.mp H
 obtain ⟨t101, A30, H⟩ := H
 replace H : ((tree_Root.f k t101).bind fun bt104 => ((tree_Root.f k ([] : List ByteArray)).bind fun bt106 => ((cons_Prove.f k t101 (t101.length : Int)).bind fun bt108 => ((cons_Prove.f k t101 0).bind fun bt112 => (if bt108.2 = 0 then (if bt112.2 = 0 then (if (bt108.1.length : Int) = 0 then (if (bt112.1.length : Int) = 0 then (rubricklaw07_ConsEnds.j0 k a1 (t101.length : Int) bt104.1 bt106.1 ((a1.size : Int) != 32)) else (rubricklaw07_ConsEnds.j0 k a1 (t101.length : Int) bt104.1 bt106.1 true)) else (rubricklaw07_ConsEnds.j0 k a1 (t101.length : Int) bt104.1 bt106.1 true)) else (rubricklaw07_ConsEnds.j0 k a1 (t101.length : Int) bt104.1 bt106.1 true)) else (rubricklaw07_ConsEnds.j0 k a1 (t101.length : Int) bt104.1 bt106.1 true)))))) = some true := H
 have A3 := Aside0.mk A30
 clear A30
 replace H := Option.bind_eq_some_iff.mp H
 obtain ⟨⟨t104, t105⟩, A40, H⟩ := H
 replace H : ((tree_Root.f k ([] : List ByteArray)).bind fun bt106 => ((cons_Prove.f k t101 (t101.length : Int)).bind fun bt108 => ((cons_Prove.f k t101 0).bind fun bt112 => (if bt108.2 = 0 then (if bt112.2 = 0 then (if (bt108.1.length : Int) = 0 then (if (bt112.1.length : Int) = 0 then (rubricklaw07_ConsEnds.j0 k a1 (t101.length : Int) t104 bt106.1 ((a1.size : Int) != 32)) else (rubricklaw07_ConsEnds.j0 k a1 (t101.length : Int) t104 bt106.1 true)) else (rubricklaw07_ConsEnds.j0 k a1 (t101.length : Int) t104 bt106.1 true)) else (rubricklaw07_ConsEnds.j0 k a1 (t101.length : Int) t104 bt106.1 true)) else (rubricklaw07_ConsEnds.j0 k a1 (t101.length : Int) t104 bt106.1 true))))) = some true := H
 have A4 := Aside0.mk A40
 clear A40
 replace H := Option.bind_eq_some_iff.mp H
 obtain ⟨⟨t106, t107⟩, A50, H⟩ := H
 replace H : ((cons_Prove.f k t101 (t101.length : Int)).bind fun bt108 => ((cons_Prove.f k t101 0).bind fun bt112 => (if bt108.2 = 0 then (if bt112.2 = 0 then (if (bt108.1.length : Int) = 0 then (if (bt112.1.length : Int) = 0 then (rubricklaw07_ConsEnds.j0 k a1 (t101.length : Int) t104 t106 ((a1.size : Int) != 32)) else (rubricklaw07_ConsEnds.j0 k a1 (t101.length : Int) t104 t106 true)) else (rubricklaw07_ConsEnds.j0 k a1 (t101.length : Int) t104 t106 true)) else (rubricklaw07_ConsEnds.j0 k a1 (t101.length : Int) t104 t106 true)) else (rubricklaw07_ConsEnds.j0 k a1 (t101.length : Int) t104 t106 true)))) = some true := H
 have A5 := Aside0.mk A50
 clear A50
 replace H := Option.bind_eq_some_iff.mp H
 obtain ⟨⟨t108, t109⟩, A60, H⟩ := H
 replace H : ((cons_Prove.f k t101 0).bind fun bt112 => (if t109 = 0 then (if bt112.2 = 0 then (if (t108.length : Int) = 0 then (if (bt112.1.length : Int) = 0 then (rubricklaw07_ConsEnds.j0 k a1 (t101.length : Int) t104 t106 ((a1.size : Int) != 32)) else (rubricklaw07_ConsEnds.j0 k a1 (t101.length : Int) t104 t106 true)) else (rubricklaw07_ConsEnds.j0 k a1 (t101.length : Int) t104 t106 true)) else (rubricklaw07_ConsEnds.j0 k a1 (t101.length : Int) t104 t106 true)) else (rubricklaw07_ConsEnds.j0 k a1 (t101.length : Int) t104 t106 true))) = some true := H
 have A6 := Aside0.mk A60
 clear A60
 replace H := Option.bind_eq_some_iff.mp H
 obtain ⟨⟨t112, t113⟩, A70, H⟩ := H
 replace H : (if t109 = 0 then (if t113 = 0 then (if (t108.length : Int) = 0 then (if (t112.length : Int) = 0 then (rubricklaw07_ConsEnds.j0 k a1 (t101.length : Int) t104 t106 ((a1.size : Int) != 32)) else (rubricklaw07_ConsEnds.j0 k a1 (t101.length : Int) t104 t106 true)) else (rubricklaw07_ConsEnds.j0 k a1 (t101.length : Int) t104 t106 true)) else (rubricklaw07_ConsEnds.j0 k a1 (t101.length : Int) t104 t106 true)) else (rubricklaw07_ConsEnds.j0 k a1 (t101.length : Int) t104 t106 true)) = some true := H
 have A7 := Aside0.mk A70
 clear A70
 have HC8 := Aside0.mk H
 clear H
 go_enter Tryd.func7, Tryd.ntmps7
 go_upto_region 7 with (first | ((with_reducible refine gate_callee (f := 23) rfl ?_); refine goesL_ (some 17) rfl rfl Tryd.func23 (by kernel_rfl) rfl #[.slice A0 l0.length c0] rfl (by (try simp only [List.map_toArray, List.map_cons, List.map_nil]); first | done | rfl | (simp only [List.length_drop, List.length_take]; rfl)) ?_; (with_reducible refine (rubricklaw07_digests.calls k _ _ l0 t101 _ ?side1 ?side2 A3.out).mono ?_); (case side1 => repeat (first | exact HR0.out | (with_reducible refine Kd.C_alloc ?_ _) | (with_reducible refine Kd.C_drewN ?_ _) | (with_reducible refine Kd.C_drew ?_))); (case side2 => exact HC0.out); rintro e w9 ⟨v102, rfl, ho0, hb⟩; refine ⟨_, rfl, ?_⟩; have n0_ := Aside0.mk (Kd.R_lower ho0 (below_size (by repeat (first | (with_reducible first | exact HB.out | apply below_alloc | apply pw_below_drewN | apply below_drew1) | exact HB.out)))); have n1_ := Aside0.mk (below_step (by repeat (first | (with_reducible first | exact HB.out | apply below_alloc | apply pw_below_drewN | apply below_drew1) | exact HB.out)) hb); clear HB; have HO103 := n0_; have HB := n1_; clear n0_ n1_; (try clear hb); (try clear hb2); (try clear hk); (try clear hi); (try clear ho0); obtain ⟨Ao10, co10, eo10⟩ := Kd.R_slice HO103.out; subst eo10) | ((with_reducible refine gate_callee (f := 24) rfl ?_); refine goesL_ (some 22) rfl rfl Tryd.func24 (by kernel_rfl) rfl #[.slice Ao10 t101.length co10] rfl (by (try simp only [List.map_toArray, List.map_cons, List.map_nil]); first | done | rfl | (simp only [List.length_drop, List.length_take]; rfl)) ?_; (with_reducible refine (tree_Root.calls k _ _ t101 t104 t105 _ ?side3 ?side1 ?side2 A4.out).mono ?_); (case side1 => repeat (first | exact (Kd.R_reads' HO103.out).2.2 | (with_reducible refine Kd.C_alloc ?_ _) | (with_reducible refine Kd.C_drewN ?_ _) | (with_reducible refine Kd.C_drew ?_))); (case side2 => exact (Kd.R_reads' HO103.out).2.1); (case side3 => exact gw_step hG_ (by repeat (first | (with_reducible first | exact HB.out | apply below_alloc | apply pw_below_drewN | apply below_drew1) | exact HB.out))); rintro e w11 ⟨rfl, hb⟩; refine ⟨_, rfl, ?_⟩; have n0_ := Aside0.mk (Kd.R_below (by (with_reducible repeat (first | apply Kd.R_alloc | apply Kd.R_drewN | apply Kd.R_drew)); exact HO103.out) hb); have n1_ := Aside0.mk (below_step (by repeat (first | (with_reducible first | exact HB.out | apply below_alloc | apply pw_below_drewN | apply below_drew1) | exact HB.out)) hb); clear HO103; clear HB; have HO103 := n0_; have HB := n1_; clear n0_ n1_; (try clear hb); (try clear hb2); (try clear hk); (try clear hi)) | ((with_reducible refine gate_callee (f := 24) rfl ?_); refine goesL_ (some 26) rfl rfl Tryd.func24 (by kernel_rfl) rfl #[.slice none 0 0] rfl (by (try simp only [List.map_toArray, List.map_cons, List.map_nil]); first | done | rfl | (simp only [List.length_drop, List.length_take]; rfl)) ?_; (refine (tree_Root.calls k _ _ ([] : List ByteArray) t106 t107 _ ?side3 ?side1 ?side2 A5.out).mono ?_); (case side1 => exact Kd.C_nil _ _); (case side2 => exact Nat.le_refl _); (case side3 => exact gw_step hG_ (by repeat (first | (with_reducible first | exact HB.out | apply below_alloc | apply pw_below_drewN | apply below_drew1) | exact HB.out))); rintro e w12 ⟨rfl, hb⟩; refine ⟨_, rfl, ?_⟩; have n0_ := Aside0.mk (Kd.R_below (by (with_reducible repeat (first | apply Kd.R_alloc | apply Kd.R_drewN | apply Kd.R_drew)); exact HO103.out) hb); have n1_ := Aside0.mk (below_step (by repeat (first | (with_reducible first | exact HB.out | apply below_alloc | apply pw_below_drewN | apply below_drew1) | exact HB.out)) hb); clear HO103; clear HB; have HO103 := n0_; have HB := n1_; clear n0_ n1_; (try clear hb); (try clear hb2); (try clear hk); (try clear hi)) | ((with_reducible refine gate_callee (f := 16) rfl ?_); refine goesL_ (some 32) rfl rfl Tryd.func16 (by kernel_rfl) rfl #[.slice Ao10 t101.length co10, .int .i64 (t101.length : Int)] rfl (by (try simp only [List.map_toArray, List.map_cons, List.map_nil]); first | done | rfl | (simp only [List.length_drop, List.length_take]; rfl)) ?_; (with_reducible refine (cons_Prove.calls k _ _ t101 (t101.length : Int) t108 t109 _ ?side3 ?side1 ?side2 A6.out).mono ?_); (case side1 => repeat (first | exact (Kd.R_reads' HO103.out).2.2 | (with_reducible refine Kd.C_alloc ?_ _) | (with_reducible refine Kd.C_drewN ?_ _) | (with_reducible refine Kd.C_drew ?_))); (case side2 => exact (Kd.R_reads' HO103.out).2.1); (case side3 => exact gw_step hG_ (by repeat (first | (with_reducible first | exact HB.out | apply below_alloc | apply pw_below_drewN | apply below_drew1) | exact HB.out))); rintro e w13 ⟨v110, rfl, ho0, hb⟩; refine ⟨_, rfl, ?_⟩; have n0_ := Aside0.mk (Kd.R_elder' (by (with_reducible repeat (first | apply Kd.R_alloc | apply Kd.R_drewN | apply Kd.R_drew)); exact HO103.out) (Kd.R_base ho0) hb); have n1_ := Aside0.mk (Kd.R_lower (Kd.R_new' ho0 (Kd.R_lt (by (with_reducible repeat (first | apply Kd.R_alloc | apply Kd.R_drewN | apply Kd.R_drew)); exact HO103.out))) (below_size (by repeat (first | (with_reducible first | exact HB.out | apply below_alloc | apply pw_below_drewN | apply below_drew1) | exact HB.out)))); have n2_ := Aside0.mk (below_step (by repeat (first | (with_reducible first | exact HB.out | apply below_alloc | apply pw_below_drewN | apply below_drew1) | exact HB.out)) hb); clear HO103; clear HB; have HO103 := n0_; have HO111 := n1_; have HB := n2_; clear n0_ n1_ n2_; (try clear hb); (try clear hb2); (try clear hk); (try clear hi); (try clear ho0)) | ((with_reducible refine gate_callee (f := 16) rfl ?_); refine goesL_ (some 37) rfl rfl Tryd.func16 (by kernel_rfl) rfl #[.slice Ao10 t101.length co10, .int .i64 0] rfl (by (try simp only [List.map_toArray, List.map_cons, List.map_nil]); first | done | rfl | (simp only [List.length_drop, List.length_take]; rfl)) ?_; (with_reducible refine (cons_Prove.calls k _ _ t101 0 t112 t113 _ ?side3 ?side1 ?side2 A7.out).mono ?_); (case side1 => repeat (first | exact (Kd.R_reads' HO103.out).2.2 | (with_reducible refine Kd.C_alloc ?_ _) | (with_reducible refine Kd.C_drewN ?_ _) | (with_reducible refine Kd.C_drew ?_))); (case side2 => exact (Kd.R_reads' HO103.out).2.1); (case side3 => exact gw_step hG_ (by repeat (first | (with_reducible first | exact HB.out | apply below_alloc | apply pw_below_drewN | apply below_drew1) | exact HB.out))); rintro e w14 ⟨v114, rfl, ho0, hb⟩; refine ⟨_, rfl, ?_⟩; have n0_ := Aside0.mk (Kd.R_elder' (by (with_reducible repeat (first | apply Kd.R_alloc | apply Kd.R_drewN | apply Kd.R_drew)); exact HO103.out) (Kd.R_base ho0) hb); have n1_ := Aside0.mk (Kd.R_elder' (by (with_reducible repeat (first | apply Kd.R_alloc | apply Kd.R_drewN | apply Kd.R_drew)); exact HO111.out) (Kd.R_base ho0) hb); have n2_ := Aside0.mk (Kd.R_lower (Kd.R_new' (Kd.R_new' ho0 (Kd.R_lt (by (with_reducible repeat (first | apply Kd.R_alloc | apply Kd.R_drewN | apply Kd.R_drew)); exact HO103.out))) (Kd.R_lt (by (with_reducible repeat (first | apply Kd.R_alloc | apply Kd.R_drewN | apply Kd.R_drew)); exact HO111.out))) (below_size (by repeat (first | (with_reducible first | exact HB.out | apply below_alloc | apply pw_below_drewN | apply below_drew1) | exact HB.out)))); have n3_ := Aside0.mk (below_step (by repeat (first | (with_reducible first | exact HB.out | apply below_alloc | apply pw_below_drewN | apply below_drew1) | exact HB.out)) hb); clear HO103; clear HO111; clear HB; have HO103 := n0_; have HO111 := n1_; have HO115 := n2_; have HB := n3_; clear n0_ n1_ n2_ n3_; (try clear hb); (try clear hb2); (try clear hk); (try clear hi); (try clear ho0)))
 (try simp only [Act.put, List.setIfInBounds_toArray, List.set_cons_zero, List.set_cons_succ])
 go_cut [60] (fun v60 wc => ∃ (kq : Nat) (x60_7 : Bool), v60 = .bool x60_7 ∧ Aside0 (rubricklaw07_ConsEnds.j0 kq a1 (t101.length : Int) t104 t106 x60_7 = some true) ∧ Aside0 (kq ≤ k) ∧ Aside0 (Below w.heap.size w wc))
 case first =>
  have H := HC8.out
  clear HC8
  by_cases c15 : t109 = 0
  ·rw [if_pos c15] at H
   have c15b0 : (t109 == 0) = true := beq_iff_eq.mpr c15
   have c15b1 : (t109 != 0) = false := bne_eq_false_iff_eq.mpr c15
   clear c15
   (first | rw [c15b0] | (simp only [i64_w, i32_w]; rw [c15b0]) | skip)
   by_cases c16 : t113 = 0
   ·rw [if_pos c16] at H
    have c16b0 : (t113 == 0) = true := beq_iff_eq.mpr c16
    have c16b1 : (t113 != 0) = false := bne_eq_false_iff_eq.mpr c16
    clear c16
    by_cases c17 : (t108.length : Int) = 0
    ·rw [if_pos c17] at H
     have c17b0 : ((t108.length : Int) == 0) = true := beq_iff_eq.mpr c17
     have c17b1 : ((t108.length : Int) != 0) = false := bne_eq_false_iff_eq.mpr c17
     clear c17
     by_cases c18 : (t112.length : Int) = 0
     ·rw [if_pos c18] at H
      have c18b0 : ((t112.length : Int) == 0) = true := beq_iff_eq.mpr c18
      have c18b1 : ((t112.length : Int) != 0) = false := bne_eq_false_iff_eq.mpr c18
      clear c18
      have H' := Aside0.mk H
      clear H
      obtain ⟨Ao19, co19, eo19⟩ := Kd.R_slice HO111.out
      subst eo19
      obtain ⟨Ao20, co20, eo20⟩ := Kd.R_slice HO115.out
      subst eo20
      go_wp2
      go_meet
      case rel => exact ⟨_, (((a1.size : Int) != 32)), (by first | rfl | (simp; done) | (simp [*]; done)), H', ⟨by first | omega | exact Nat.le_refl _⟩, ⟨by repeat (first | (with_reducible first | exact HB.out | apply below_alloc | apply pw_below_drewN | apply below_drew1) | exact HB.out)⟩⟩
     ·rw [if_neg c18] at H
      have c18b0 : ((t112.length : Int) == 0) = false := beq_eq_false_iff_ne.mpr c18
      have c18b1 : ((t112.length : Int) != 0) = true := bne_iff_ne.mpr c18
      have c18b2 : ¬ (t112 = []) := fun h_ => c18 (by rw [h_]; rfl)
      have H' := Aside0.mk H
      clear H
      obtain ⟨Ao21, co21, eo21⟩ := Kd.R_slice HO111.out
      subst eo21
      obtain ⟨Ao22, co22, eo22⟩ := Kd.R_slice HO115.out
      subst eo22
      go_wp2
      go_meet
      case rel => exact ⟨_, (true), (by first | rfl | (simp; done) | (simp [*]; done)), H', ⟨by first | omega | exact Nat.le_refl _⟩, ⟨by repeat (first | (with_reducible first | exact HB.out | apply below_alloc | apply pw_below_drewN | apply below_drew1) | exact HB.out)⟩⟩
    ·rw [if_neg c17] at H
     have c17b0 : ((t108.length : Int) == 0) = false := beq_eq_false_iff_ne.mpr c17
     have c17b1 : ((t108.length : Int) != 0) = true := bne_iff_ne.mpr c17
     have c17b2 : ¬ (t108 = []) := fun h_ => c17 (by rw [h_]; rfl)
     have H' := Aside0.mk H
     clear H
     obtain ⟨Ao23, co23, eo23⟩ := Kd.R_slice HO111.out
     subst eo23
     go_wp2
     go_meet
     case rel => exact ⟨_, (true), (by first | rfl | (simp; done) | (simp [*]; done)), H', ⟨by first | omega | exact Nat.le_refl _⟩, ⟨by repeat (first | (with_reducible first | exact HB.out | apply below_alloc | apply pw_below_drewN | apply below_drew1) | exact HB.out)⟩⟩
   ·rw [if_neg c16] at H
    have c16b0 : (t113 == 0) = false := beq_eq_false_iff_ne.mpr c16
    have c16b1 : (t113 != 0) = true := bne_iff_ne.mpr c16
    have H' := Aside0.mk H
    clear H
    go_wp2
    go_meet
    case rel => exact ⟨_, (true), (by first | rfl | (simp; done) | (simp [*]; done)), H', ⟨by first | omega | exact Nat.le_refl _⟩, ⟨by repeat (first | (with_reducible first | exact HB.out | apply below_alloc | apply pw_below_drewN | apply below_drew1) | exact HB.out)⟩⟩
  ·rw [if_neg c15] at H
   have c15b0 : (t109 == 0) = false := beq_eq_false_iff_ne.mpr c15
   have c15b1 : (t109 != 0) = true := bne_iff_ne.mpr c15
   (first | rw [c15b0] | (simp only [i64_w, i32_w]; rw [c15b0]) | skip)
   have H' := Aside0.mk H
   clear H
   go_wp2
   go_meet
   case rel => exact ⟨_, (true), (by first | rfl | (simp; done) | (simp [*]; done)), H', ⟨by first | omega | exact Nat.le_refl _⟩, ⟨by repeat (first | (with_reducible first | exact HB.out | apply below_alloc | apply pw_below_drewN | apply below_drew1) | exact HB.out)⟩⟩
 case rest =>
  clear HC8
  try clear c1
  try clear c2
  try clear p2
  try clear c7
  try clear c15
  try clear c15b0
  try clear c15b1
  try clear c16
  try clear c16b0
  try clear c16b1
  try clear c17
  try clear c17b0
  try clear c17b1
  try clear c17b2
  try clear c18
  try clear c18b0
  try clear c18b1
  try clear c18b2
  try clear c23
  obtain ⟨kq, x60_7, rfl, HA, HJ7, HB⟩ := hcut
  cases kq with
  | zero => exact absurd HA.out (by simp [rubricklaw07_ConsEnds.j0])
  | succ kj7 =>
   have H := HA.out
   clear HA
   simp only [rubricklaw07_ConsEnds.j0] at H
   by_cases c24 : x60_7 = true
   ·subst c24
    have H1 : (if (a1.size : Int) = 32 then (some false) else ((rubricklaw07_knows.f kj7).bind fun t116 => (some t116))) = some true := by rw [if_pos rfl] at H; exact H
    clear H
    have H := H1
    clear H1
    by_cases c25 : (a1.size : Int) = 32
    ·rw [if_pos c25] at H
     have c25b0 : ((a1.size : Int) == 32) = true := beq_iff_eq.mpr c25
     have c25b1 : ((a1.size : Int) != 32) = false := bne_eq_false_iff_eq.mpr c25
     clear c25
     cases H
    ·rw [if_neg c25] at H
     have c25b0 : ((a1.size : Int) == 32) = false := beq_eq_false_iff_ne.mpr c25
     have c25b1 : ((a1.size : Int) != 32) = true := bne_iff_ne.mpr c25
     replace H := Option.bind_eq_some_iff.mp H
     obtain ⟨t116, A260, H⟩ := H
     replace H : (some t116) = some true := H
     have A26 := Aside0.mk A260
     clear A260
     have HT2_ := Aside0.mk (Option.some.inj H)
     clear H
     go_wp2_with (first | (go_at_call 15; (with_reducible refine (rubricklaw07_knows.calls kj7  t116 _ ?side1 A26.out).mono ?_); (case side1 => exact gw_step hG_ (by repeat (first | (with_reducible first | exact HB.out | apply below_alloc | apply pw_below_drewN | apply below_drew1) | exact HB.out))); rintro e w27 ⟨rfl, hb⟩; have n0_ := Aside0.mk (below_step (by repeat (first | (with_reducible first | exact HB.out | apply below_alloc | apply pw_below_drewN | apply below_drew1) | exact HB.out)) hb); clear HB; have HB := n0_; clear n0_; (try clear hb); (try clear hb2); (try clear hk); (try clear hi)))
     go_ret
     exact ⟨by first | rfl | (simp [errW_none, errW_some] <;> rfl) | exact congrArg (fun b_ : Bool => Ending.returned (Value.bool b_)) HT2_.out | (simp [*, errW_none, errW_some] <;> rfl), by repeat (first | (with_reducible first | exact HB.out | apply below_alloc | apply pw_below_drewN | apply below_drew1) | exact HB.out)⟩
   ·replace c24 := Bool.eq_false_iff.mpr c24
    subst c24
    have H1 : ((cons_Check.f kj7 (t101.length : Int) (t101.length : Int) t104 t104 ([] : List ByteArray)).bind fun t117 => (if t117 = 0 then ((cons_Check.f kj7 0 (t101.length : Int) t106 t104 ([] : List ByteArray)).bind fun t118 => (if t118 = 0 then ((cons_Check.f kj7 (t101.length : Int) (t101.length : Int) t104 t104 (([a1] : List ByteArray))).bind fun t122 => (if t122 = 6 then ((cons_Check.f kj7 0 (t101.length : Int) t106 t104 (([a1] : List ByteArray))).bind fun t126 => (if t126 = 6 then ((rubricklaw07_knows.f kj7).bind fun t127 => (some t127)) else (some false))) else (some false))) else (some false))) else (some false))) = some true := by rw [if_neg (show ¬ (false = true) by decide)] at H; exact H
    clear H
    have H := H1
    clear H1
    replace H := Option.bind_eq_some_iff.mp H
    obtain ⟨t117, A280, H⟩ := H
    replace H : (if t117 = 0 then ((cons_Check.f kj7 0 (t101.length : Int) t106 t104 ([] : List ByteArray)).bind fun t118 => (if t118 = 0 then ((cons_Check.f kj7 (t101.length : Int) (t101.length : Int) t104 t104 (([a1] : List ByteArray))).bind fun t122 => (if t122 = 6 then ((cons_Check.f kj7 0 (t101.length : Int) t106 t104 (([a1] : List ByteArray))).bind fun t126 => (if t126 = 6 then ((rubricklaw07_knows.f kj7).bind fun t127 => (some t127)) else (some false))) else (some false))) else (some false))) else (some false)) = some true := H
    have A28 := Aside0.mk A280
    clear A280
    by_cases c29 : t117 = 0
    ·rw [if_pos c29] at H
     have c29b0 : (t117 == 0) = true := beq_iff_eq.mpr c29
     have c29b1 : (t117 != 0) = false := bne_eq_false_iff_eq.mpr c29
     clear c29
     replace H := Option.bind_eq_some_iff.mp H
     obtain ⟨t118, A300, H⟩ := H
     replace H : (if t118 = 0 then ((cons_Check.f kj7 (t101.length : Int) (t101.length : Int) t104 t104 (([a1] : List ByteArray))).bind fun t122 => (if t122 = 6 then ((cons_Check.f kj7 0 (t101.length : Int) t106 t104 (([a1] : List ByteArray))).bind fun t126 => (if t126 = 6 then ((rubricklaw07_knows.f kj7).bind fun t127 => (some t127)) else (some false))) else (some false))) else (some false)) = some true := H
     have A30 := Aside0.mk A300
     clear A300
     by_cases c31 : t118 = 0
     ·rw [if_pos c31] at H
      have c31b0 : (t118 == 0) = true := beq_iff_eq.mpr c31
      have c31b1 : (t118 != 0) = false := bne_eq_false_iff_eq.mpr c31
      clear c31
      obtain ⟨y119, hy119⟩ : ∃ y_ : List ByteArray, y_ = (([a1] : List ByteArray)) := ⟨_, rfl⟩
      replace H : ((cons_Check.f kj7 (t101.length : Int) (t101.length : Int) t104 t104 y119).bind fun t122 => (if t122 = 6 then ((cons_Check.f kj7 0 (t101.length : Int) t106 t104 (([a1] : List ByteArray))).bind fun t126 => (if t126 = 6 then ((rubricklaw07_knows.f kj7).bind fun t127 => (some t127)) else (some false))) else (some false))) = some true := by first | (rw [hy119]; with_reducible exact H) | (have H2_ := (Option.bind_some _ _).symm.trans H; rw [hy119]; with_reducible exact H2_) | (have H2_ := (Option.bind_some _ _).symm.trans H; with_reducible exact H2_) | with_reducible exact H | (rw [hy119]; exact H) | exact H
      have Ny119 := Aside0.mk hy119
      clear hy119
      replace H := Option.bind_eq_some_iff.mp H
      obtain ⟨t122, A320, H⟩ := H
      replace H : (if t122 = 6 then ((cons_Check.f kj7 0 (t101.length : Int) t106 t104 (([a1] : List ByteArray))).bind fun t126 => (if t126 = 6 then ((rubricklaw07_knows.f kj7).bind fun t127 => (some t127)) else (some false))) else (some false)) = some true := H
      have A32 := Aside0.mk A320
      clear A320
      by_cases c33 : t122 = 6
      ·rw [if_pos c33] at H
       have c33b0 : (t122 == 6) = true := beq_iff_eq.mpr c33
       have c33b1 : (t122 != 6) = false := bne_eq_false_iff_eq.mpr c33
       clear c33
       obtain ⟨y123, hy123⟩ : ∃ y_ : List ByteArray, y_ = (([a1] : List ByteArray)) := ⟨_, rfl⟩
       replace H : ((cons_Check.f kj7 0 (t101.length : Int) t106 t104 y123).bind fun t126 => (if t126 = 6 then ((rubricklaw07_knows.f kj7).bind fun t127 => (some t127)) else (some false))) = some true := by first | (rw [hy123]; with_reducible exact H) | (have H2_ := (Option.bind_some _ _).symm.trans H; rw [hy123]; with_reducible exact H2_) | (have H2_ := (Option.bind_some _ _).symm.trans H; with_reducible exact H2_) | with_reducible exact H | (rw [hy123]; exact H) | exact H
       have Ny123 := Aside0.mk hy123
       clear hy123
       replace H := Option.bind_eq_some_iff.mp H
       obtain ⟨t126, A340, H⟩ := H
       replace H : (if t126 = 6 then ((rubricklaw07_knows.f kj7).bind fun t127 => (some t127)) else (some false)) = some true := H
       have A34 := Aside0.mk A340
       clear A340
       by_cases c35 : t126 = 6
       ·rw [if_pos c35] at H
        have c35b0 : (t126 == 6) = true := beq_iff_eq.mpr c35
        have c35b1 : (t126 != 6) = false := bne_eq_false_iff_eq.mpr c35
        clear c35
        replace H := Option.bind_eq_some_iff.mp H
        obtain ⟨t127, A360, H⟩ := H
        replace H : (some t127) = some true := H
        have A36 := Aside0.mk A360
        clear A360
        have HT2_ := Aside0.mk (Option.some.inj H)
        clear H
        go_wp2_with (first | ((with_reducible refine gate_callee (f := 20) rfl ?_); refine goesL_ (some 71) rfl rfl Tryd.func20 (by kernel_rfl) rfl #[.int .i64 (t101.length : Int), .int .i64 (t101.length : Int), .string t104, .string t104, .slice none 0 0] rfl (by (try simp only [List.map_toArray, List.map_cons, List.map_nil]); first | done | rfl | (simp only [List.length_drop, List.length_take]; rfl)) ?_; (refine (cons_Check.calls kj7 (t101.length : Int) (t101.length : Int) t104 t104 _ _ ([] : List ByteArray) t117 _ ?side3 ?side1 ?side2 A28.out).mono ?_); (case side1 => exact Kd.C_nil _ _); (case side2 => exact Nat.le_refl _); (case side3 => exact gw_step hG_ (by repeat (first | (with_reducible first | exact HB.out | apply below_alloc | apply pw_below_drewN | apply below_drew1) | exact HB.out))); rintro e w37 ⟨rfl, hb⟩; refine ⟨_, rfl, ?_⟩; have n0_ := Aside0.mk (below_step (by repeat (first | (with_reducible first | exact HB.out | apply below_alloc | apply pw_below_drewN | apply below_drew1) | exact HB.out)) hb); clear HB; have HB := n0_; clear n0_; (try clear hb); (try clear hb2); (try clear hk); (try clear hi)) | ((with_reducible refine gate_dst (N := 87) rfl ?_); (try (refine gate_guard (by rfl) ?_; dsimp only)); refine Kd.R_lit Kd.string _ 9 ?hg (N := 87) ?hd (xs := ([a1] : List ByteArray)) (inner := [.string a1]) (ok := fun _ => True) (okp := fun _ => True) ?hr ?hp (fun _ hk => hk) trivial (Below.refl _ _) (Nat.le_refl _) (by simp) ?_; (case hd => rfl); (case hg => rfl); (case hr => first | (go_simp; done) | (go_simp; rfl)); (case hp => exact (Reps.one (show Kd.M Kd.string _ _ _ a1 [.string a1] from rfl) (Reps.none _ _))); intro v120 w39 ho40 hb hg_ hnew_; clear hg_ hnew_; (first | rw [← Ny119.out] at ho40 | (simp only [Int.reduceToNat] at ho40; rw [← Ny119.out] at ho40)); have n0_ := Aside0.mk (Kd.R_lower ho40 (below_size (by repeat (first | (with_reducible first | exact HB.out | apply below_alloc | apply pw_below_drewN | apply below_drew1) | exact HB.out)))); have n1_ := Aside0.mk (below_step (by repeat (first | (with_reducible first | exact HB.out | apply below_alloc | apply pw_below_drewN | apply below_drew1) | exact HB.out)) hb); clear HB; have HO121 := n0_; have HB := n1_; clear n0_ n1_; clear hb ho40; obtain ⟨Ao41, co41, eo41⟩ := Kd.R_slice HO121.out; subst eo41) | (go_at_call 20; (with_reducible refine (cons_Check.calls kj7 (t101.length : Int) (t101.length : Int) t104 t104 _ _ y119 t122 _ ?side3 ?side1 ?side2 A32.out).mono ?_); (case side1 => repeat (first | exact (Kd.R_reads' HO121.out).2.2 | (with_reducible refine Kd.C_alloc ?_ _) | (with_reducible refine Kd.C_drewN ?_ _) | (with_reducible refine Kd.C_drew ?_))); (case side2 => exact (Kd.R_reads' HO121.out).2.1); (case side3 => exact gw_step hG_ (by repeat (first | (with_reducible first | exact HB.out | apply below_alloc | apply pw_below_drewN | apply below_drew1) | exact HB.out))); rintro e w42 ⟨rfl, hb⟩; have n0_ := Aside0.mk (Kd.R_below (by (with_reducible repeat (first | apply Kd.R_alloc | apply Kd.R_drewN | apply Kd.R_drew)); exact HO121.out) hb); have n1_ := Aside0.mk (below_step (by repeat (first | (with_reducible first | exact HB.out | apply below_alloc | apply pw_below_drewN | apply below_drew1) | exact HB.out)) hb); clear HO121; clear HB; have HO121 := n0_; have HB := n1_; clear n0_ n1_; (try clear hb); (try clear hb2); (try clear hk); (try clear hi)) | ((with_reducible refine gate_dst (N := 96) rfl ?_); (try (refine gate_guard (by rfl) ?_; dsimp only)); refine Kd.R_lit Kd.string _ 9 ?hg (N := 96) ?hd (xs := ([a1] : List ByteArray)) (inner := [.string a1]) (ok := fun _ => True) (okp := fun _ => True) ?hr ?hp (fun _ hk => hk) trivial (Below.refl _ _) (Nat.le_refl _) (by simp) ?_; (case hd => rfl); (case hg => rfl); (case hr => first | (go_simp; done) | (go_simp; rfl)); (case hp => exact (Reps.one (show Kd.M Kd.string _ _ _ a1 [.string a1] from rfl) (Reps.none _ _))); intro v124 w43 ho44 hb hg_ hnew_; clear hg_ hnew_; (first | rw [← Ny123.out] at ho44 | (simp only [Int.reduceToNat] at ho44; rw [← Ny123.out] at ho44)); have n0_ := Aside0.mk (Kd.R_elder' (by (with_reducible repeat (first | apply Kd.R_alloc | apply Kd.R_drewN | apply Kd.R_drew)); exact HO121.out) (Kd.R_base ho44) hb); have n1_ := Aside0.mk (Kd.R_lower (Kd.R_new' ho44 (Kd.R_lt (by (with_reducible repeat (first | apply Kd.R_alloc | apply Kd.R_drewN | apply Kd.R_drew)); exact HO121.out))) (below_size (by repeat (first | (with_reducible first | exact HB.out | apply below_alloc | apply pw_below_drewN | apply below_drew1) | exact HB.out)))); have n2_ := Aside0.mk (below_step (by repeat (first | (with_reducible first | exact HB.out | apply below_alloc | apply pw_below_drewN | apply below_drew1) | exact HB.out)) hb); clear HO121; clear HB; have HO121 := n0_; have HO125 := n1_; have HB := n2_; clear n0_ n1_ n2_; clear hb ho44; obtain ⟨Ao45, co45, eo45⟩ := Kd.R_slice HO125.out; subst eo45) | (go_at_call 20; (with_reducible refine (cons_Check.calls kj7 0 (t101.length : Int) t106 t104 _ _ y123 t126 _ ?side3 ?side1 ?side2 A34.out).mono ?_); (case side1 => repeat (first | exact (Kd.R_reads' HO125.out).2.2 | (with_reducible refine Kd.C_alloc ?_ _) | (with_reducible refine Kd.C_drewN ?_ _) | (with_reducible refine Kd.C_drew ?_))); (case side2 => exact (Kd.R_reads' HO125.out).2.1); (case side3 => exact gw_step hG_ (by repeat (first | (with_reducible first | exact HB.out | apply below_alloc | apply pw_below_drewN | apply below_drew1) | exact HB.out))); rintro e w46 ⟨rfl, hb⟩; have n0_ := Aside0.mk (Kd.R_below (by (with_reducible repeat (first | apply Kd.R_alloc | apply Kd.R_drewN | apply Kd.R_drew)); exact HO121.out) hb); have n1_ := Aside0.mk (Kd.R_below (by (with_reducible repeat (first | apply Kd.R_alloc | apply Kd.R_drewN | apply Kd.R_drew)); exact HO125.out) hb); have n2_ := Aside0.mk (below_step (by repeat (first | (with_reducible first | exact HB.out | apply below_alloc | apply pw_below_drewN | apply below_drew1) | exact HB.out)) hb); clear HO121; clear HO125; clear HB; have HO121 := n0_; have HO125 := n1_; have HB := n2_; clear n0_ n1_ n2_; (try clear hb); (try clear hb2); (try clear hk); (try clear hi)) | (go_at_call 15; (with_reducible refine (rubricklaw07_knows.calls kj7  t127 _ ?side1 A36.out).mono ?_); (case side1 => exact gw_step hG_ (by repeat (first | (with_reducible first | exact HB.out | apply below_alloc | apply pw_below_drewN | apply below_drew1) | exact HB.out))); rintro e w47 ⟨rfl, hb⟩; have n0_ := Aside0.mk (Kd.R_below (by (with_reducible repeat (first | apply Kd.R_alloc | apply Kd.R_drewN | apply Kd.R_drew)); exact HO121.out) hb); have n1_ := Aside0.mk (Kd.R_below (by (with_reducible repeat (first | apply Kd.R_alloc | apply Kd.R_drewN | apply Kd.R_drew)); exact HO125.out) hb); have n2_ := Aside0.mk (below_step (by repeat (first | (with_reducible first | exact HB.out | apply below_alloc | apply pw_below_drewN | apply below_drew1) | exact HB.out)) hb); clear HO121; clear HO125; clear HB; have HO121 := n0_; have HO125 := n1_; have HB := n2_; clear n0_ n1_ n2_; (try clear hb); (try clear hb2); (try clear hk); (try clear hi)) | (go_at_call 20; (refine (cons_Check.calls kj7 0 (t101.length : Int) t106 t104 _ _ ([] : List ByteArray) t118 _ ?side3 ?side1 ?side2 A30.out).mono ?_); (case side1 => exact Kd.C_nil _ _); (case side2 => exact Nat.le_refl _); (case side3 => exact gw_step hG_ (by repeat (first | (with_reducible first | exact HB.out | apply below_alloc | apply pw_below_drewN | apply below_drew1) | exact HB.out))); rintro e w38 ⟨rfl, hb⟩; have n0_ := Aside0.mk (below_step (by repeat (first | (with_reducible first | exact HB.out | apply below_alloc | apply pw_below_drewN | apply below_drew1) | exact HB.out)) hb); clear HB; have HB := n0_; clear n0_; (try clear hb); (try clear hb2); (try clear hk); (try clear hi)))
        go_ret
        exact ⟨by first | rfl | (simp [errW_none, errW_some] <;> rfl) | exact congrArg (fun b_ : Bool => Ending.returned (Value.bool b_)) HT2_.out | (simp [*, errW_none, errW_some] <;> rfl), by repeat (first | (with_reducible first | exact HB.out | apply below_alloc | apply pw_below_drewN | apply below_drew1) | exact HB.out)⟩
       ·rw [if_neg c35] at H
        have c35b0 : (t126 == 6) = false := beq_eq_false_iff_ne.mpr c35
        have c35b1 : (t126 != 6) = true := bne_iff_ne.mpr c35
        cases H
      ·rw [if_neg c33] at H
       have c33b0 : (t122 == 6) = false := beq_eq_false_iff_ne.mpr c33
       have c33b1 : (t122 != 6) = true := bne_iff_ne.mpr c33
       cases H
     ·rw [if_neg c31] at H
      have c31b0 : (t118 == 0) = false := beq_eq_false_iff_ne.mpr c31
      have c31b1 : (t118 != 0) = true := bne_iff_ne.mpr c31
      cases H
    ·rw [if_neg c29] at H
     have c29b0 : (t117 == 0) = false := beq_eq_false_iff_ne.mpr c29
     have c29b1 : (t117 != 0) = true := bne_iff_ne.mpr c29
     cases H
end Go.Proofs.YtpmefpdafkbphaaDoor.PConsEnds

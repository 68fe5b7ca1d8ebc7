import Derived.Test.YtjcfimnijpcjmaaDoorZaHBulk
import Derived.Test.YtjcfimnijpcjmaaDoorProg
import Derived.Below
import Derived.Deep.Draws
import Derived.Deep.AppendLies
import Derived.Maps.AppendAt
import Derived.OwnWalk
import Derived.Laws.BytesArg
import Derived.Laws.MakeOwn
import Derived.Laws.OwnMore
import Derived.Deep.OwnRows
import Derived.Tactics
import Derived.Lib.ConvBytes
import Derived.Laws.Slices
import Derived.WalkKit
import Derived.KernelRfl
import Derived.RowKit3
import Derived.Deep.LoopGhost
import Derived.Deep.QuietTactic
import Derived.BigQuiet
import Derived.WideLaws
import Derived.Deep.DeepCutAuto
import Derived.Deep.CutBlock
import Derived.Deep.RegionHeld3
import Derived.Laws.Rows
import Derived.Lib.AppendStr
import Derived.ArgAppend
import Derived.Laws.IdiomCopy
import Derived.OrdersHeld
import Derived.Laws.BitsLemmas
import Derived.RowKit
import Derived.WalkMore
import Derived.Test.YtjcfimnijpcjmaaDoorZaHShaD
import Derived.Test.YtjcfimnijpcjmaaDoorZaPS
import Derived.Test.YtjcfimnijpcjmaaDoorZaPX
import Derived.Test.YtjcfimnijpcjmaaDoorZaPK
import Derived.Test.YtjcfimnijpcjmaaDoorZaPR
import Derived.Test.YtjcfimnijpcjmaaDoorZaWWords
import Derived.Test.YtjcfimnijpcjmaaDoorZaWLast
import Derived.Test.YtjcfimnijpcjmaaDoorZaWTab
import Derived.Test.YtjcfimnijpcjmaaDoorZaWApart
import Derived.Test.YtjcfimnijpcjmaaDoorZaWFoot
import Derived.Test.YtjcfimnijpcjmaaDoorZaWKept
import Derived.Test.YtjcfimnijpcjmaaDoorZaWShare
import Derived.Test.YtjcfimnijpcjmaaDoorZaWN
import Derived.Laws.StructEq
import Derived.Test.YtjcfimnijpcjmaaDoorZaWRepsOne
import Derived.Test.YtjcfimnijpcjmaaDoorZaWInv
import Derived.Test.YtjcfimnijpcjmaaDoorZaWGuard
import Derived.Test.YtjcfimnijpcjmaaDoorZaWMore
-- PRINTED by print.py (a twelfth state) out of the translation. Not trusted: Lean checks it.
namespace Go.Proofs.YtjcfimnijpcjmaaDoor.PShaParts
open Go.RowKit Go.Proofs.YtjcfimnijpcjmaaDoor  Go.Proofs.YtjcfimnijpcjmaaDoor.HSha Go.Proofs.YtjcfimnijpcjmaaDoor.PS Go.Proofs.YtjcfimnijpcjmaaDoor.PX Go.Proofs.YtjcfimnijpcjmaaDoor.PK Go.Proofs.YtjcfimnijpcjmaaDoor.PR Go.Proofs.YtjcfimnijpcjmaaDoorW.PrintWords Go.Proofs.YtjcfimnijpcjmaaDoorW.PrintLast Go.Proofs.YtjcfimnijpcjmaaDoorW.PrintMore
attribute [local go_sem] max2_int min2_int max_two min_two max_three min_three max_four min_four   -- for this text's walks alone
set_option linter.unusedVariables false
set_option linter.unusedSimpArgs false
def errW : Option Int → Value
 | none => .nilIface
 | some c => .iface 0 (.int .i64 c)
theorem errW_none : errW none = .nilIface := rfl
theorem errW_some (c : Int) : errW (some c) = .iface 0 (.int .i64 c) := rfl
theorem info5 : (Tryd.prog.info? 5).map (fun i => (i.zero, i.size, i.bytes)) = some (some (.int .u8 0), 1, 1) := by kernel_rfl
-- the values' own types
def rd_L1 (xs : List (List Int)) (i : Int) : (List Int) := xs.getD i.toNat ([] : List Int)
theorem at_L1 {w : World} {A : Option Addr} {n : Nat} {xs : List (List Int)} (h : Kd.C (Kd.slice 5 (Kd.int .u8)) w A n xs) (i : Int) (h0 : 0 ≤ i) (h1 : i < n) : ∃ ad A0 c0, A = some ad ∧ w.cell? (ad.add i.toNat) = some (.slice A0 (rd_L1 xs i).length c0) ∧ (rd_L1 xs i).length ≤ c0 ∧ (Kd.int .u8).C w A0 (rd_L1 xs i).length (rd_L1 xs i) := by
 obtain ⟨ad, c, e, _, hK, hc0⟩ := Kd.C_get h ([] : List Int) i h0 h1
 have hc : ∀ j u, c[j]? = some u → w.cell? (ad.add (i.toNat * 1 + j)) = some u := hc0
 obtain ⟨A0, c0, rfl, l0, g0⟩ := hK
 exact ⟨ad, A0, c0, e, by have hq := hc 0 _ rfl; rwa [Nat.mul_one, Nat.add_zero] at hq, l0, g0⟩
end Go.Proofs.YtjcfimnijpcjmaaDoor.PShaParts
namespace Go.Proofs.YtjcfimnijpcjmaaDoor.PShaParts
open Go.RowKit Go.Proofs.YtjcfimnijpcjmaaDoor  Go.Proofs.YtjcfimnijpcjmaaDoor.HSha Go.Proofs.YtjcfimnijpcjmaaDoor.PS Go.Proofs.YtjcfimnijpcjmaaDoor.PX Go.Proofs.YtjcfimnijpcjmaaDoor.PK Go.Proofs.YtjcfimnijpcjmaaDoor.PR Go.Proofs.YtjcfimnijpcjmaaDoorW.PrintWords Go.Proofs.YtjcfimnijpcjmaaDoorW.PrintLast Go.Proofs.YtjcfimnijpcjmaaDoorW.PrintMore
attribute [local go_sem] max2_int min2_int max_two min_two max_three min_three max_four min_four   -- for this text's walks alone
set_option linter.unusedVariables false
set_option linter.unusedSimpArgs false
/-! ### rubricklaw01_ShaParts: function 7 -/
mutual
def rubricklaw01_ShaParts.l0 : Nat → List (List Int) → List Int → Int → Int → Int → Int → Int → Int → Int → Int → Int → List Int → Int → Option (Bool)
 | 0, _, _, _, _, _, _, _, _, _, _, _, _, _ => none
 | k + 1, x0, x4, x5, x114000, x114001, x114002, x114003, x114004, x114005, x114006, x114007, x114008, x114009 => if x5 < (x0.length : Int) then (rubricklaw01_ShaParts.j1 k x0 x4 x5 (decide (x5 < 20)) x114000 x114001 x114002 x114003 x114004 x114005 x114006 x114007 x114008 x114009) else (rubricklaw01_ShaParts.j1 k x0 x4 x5 false x114000 x114001 x114002 x114003 x114004 x114005 x114006 x114007 x114008 x114009)
def rubricklaw01_ShaParts.j1 : Nat → List (List Int) → List Int → Int → Bool → Int → Int → Int → Int → Int → Int → Int → Int → List Int → Int → Option (Bool)
 | 0, _, _, _, _, _, _, _, _, _, _, _, _, _, _ => none
 | k + 1, x0, x4, x5, x14, x114000, x114001, x114002, x114003, x114004, x114005, x114006, x114007, x114008, x114009 => if x14 = true then (if 0 ≤ x5 then (if x5 < (x0.length : Int) then (if ((rd_L1 x0 x5).length : Int) > 1000 then (rubricklaw01_ShaParts.l0 k x0 x4 (wrap64 (x5 + 1)) x114000 x114001 x114002 x114003 x114004 x114005 x114006 x114007 x114008 x114009) else ((some (([] : List Int) : List Int)).bind fun y116 => (if y116.length + (rd_L1 x0 x5).length < 140737488355328 then ((sha_Add.f x114000 x114001 x114002 x114003 x114004 x114005 x114006 x114007 x114008 x114009 (y116 ++ (rd_L1 x0 x5))).bind fun bt123 => (if x4.length + (rd_L1 x0 x5).length < 140737488355328 then ((some (x4 ++ (rd_L1 x0 x5) : List Int)).bind fun y136 => (if bt123.2.2.2.2.2.2.2.2.2 = (y136.length : Int) then (if (bt123.2.2.2.2.2.2.2.2.1.length : Int) = ((y136.length : Int) % 64) then ((sha_End.f bt123.1 bt123.2.1 bt123.2.2.1 bt123.2.2.2.1 bt123.2.2.2.2.1 bt123.2.2.2.2.2.1 bt123.2.2.2.2.2.2.1 bt123.2.2.2.2.2.2.2.1 bt123.2.2.2.2.2.2.2.2.1 bt123.2.2.2.2.2.2.2.2.2).bind fun t139 => ((rubrickref01_Sum.f k y136).bind fun t140 => (if t139.toList = t140.toList then (rubricklaw01_ShaParts.l0 k x0 y136 (wrap64 (x5 + 1)) bt123.1 bt123.2.1 bt123.2.2.1 bt123.2.2.2.1 bt123.2.2.2.2.1 bt123.2.2.2.2.2.1 bt123.2.2.2.2.2.2.1 bt123.2.2.2.2.2.2.2.1 bt123.2.2.2.2.2.2.2.2.1 bt123.2.2.2.2.2.2.2.2.2) else (some false)))) else (some false)) else (some false))) else (none))) else (none)))) else (none)) else (none)) else ((rubricklaw01_knows.f k).bind fun t114 => (some t114))
end
def rubricklaw01_ShaParts.f (k : Nat) (l0 : List (List Int)) : Option (Bool) := (sha_New.f).bind fun bt101 => (rubricklaw01_ShaParts.l0 k l0 ([] : List Int) 0 bt101.1 bt101.2.1 bt101.2.2.1 bt101.2.2.2.1 bt101.2.2.2.2.1 bt101.2.2.2.2.2.1 bt101.2.2.2.2.2.2.1 bt101.2.2.2.2.2.2.2.1 bt101.2.2.2.2.2.2.2.2.1 bt101.2.2.2.2.2.2.2.2.2)
def rubricklaw01_ShaParts.T7 : Bool × List (List Nat × List Nat) := (true, [([], []), ([], []), ([], []), ([], []), ([2, 3], [2, 3]), ([4], [4]), ([1, 5], [1, 5]), ([0, 6, 6], [0, 6]), ([7, 7, 0, 1, 2, 3, 4, 5, 6, 7], [7])])
def rubricklaw01_ShaParts.B7 : List Nat := [0, 0, 0, 0, 12, 28, 62, 127, 255]
theorem rubricklaw01_ShaParts.tab7 : rtab .any (opsOf Tryd.f7 7) = rubricklaw01_ShaParts.T7 := by kernel_rfl
theorem rubricklaw01_ShaParts.bits7 : waitsOk rubricklaw01_ShaParts.T7.2 rubricklaw01_ShaParts.B7 = true := by kernel_rfl
set_option maxHeartbeats 8000000 in
set_option maxRecDepth 100000 in
theorem rubricklaw01_ShaParts.calls (k : Nat) (A0 : Option Addr) (c0 : Nat) (l0 : List (List Int)) (r : Bool) (w : World) (hG_ : Aside0 (GW w)) (hr0 : Kd.C (Kd.slice 5 (Kd.int .u8)) w A0 l0.length l0) (hc0 : l0.length ≤ c0) (h : rubricklaw01_ShaParts.f k l0 = some r) (hT_ : r = true) :
  Calls Tryd.prog 7 #[.slice A0 l0.length c0] w fun e w' => e = .returned (.bool r) ∧ Below w.heap.size w w' := by
 have hu41 := Tryd.underlying41
 have HR0 := Aside0.mk hr0
 have HC0 := Aside0.mk hc0
 clear hr0 hc0
 have HB := Aside0.mk (Below.refl w.heap.size w)
 subst hT_
 have H : ((sha_New.f).bind fun bt101 => (rubricklaw01_ShaParts.l0 k l0 ([] : List Int) 0 bt101.1 bt101.2.1 bt101.2.2.1 bt101.2.2.2.1 bt101.2.2.2.2.1 bt101.2.2.2.2.2.1 bt101.2.2.2.2.2.2.1 bt101.2.2.2.2.2.2.2.1 bt101.2.2.2.2.2.2.2.2.1 bt101.2.2.2.2.2.2.2.2.2)) = some true := h
 clear h
 replace H := Option.bind_eq_some_iff.mp H
 obtain ⟨⟨t101, t102, t103, t104, t105, t106, t107, t108, t109, t112⟩, A20, H⟩ := H
 replace H : (rubricklaw01_ShaParts.l0 k l0 ([] : List Int) 0 t101 t102 t103 t104 t105 t106 t107 t108 t109 t112) = some true := H
 have A2 := Aside0.mk A20
 clear A20
 have H' := Aside0.mk H
 clear H
 go_enter Tryd.func7, Tryd.ntmps7
 go_wp2_with (first | ((with_reducible refine gate_callee (f := 29) rfl ?_); refine goesL_ (some 6) rfl rfl Tryd.func29 (by kernel_rfl) rfl #[] rfl (by (try simp only [List.map_toArray, List.map_cons, List.map_nil]); first | done | rfl | (simp only [List.length_drop, List.length_take]; rfl)) ?_; (with_reducible refine (sha_New.calls  t101 t102 t103 t104 t105 t106 t107 t108 t109 t112 _ A2.out).mono ?_); rintro e w3 ⟨v110, rfl, ho0, hb⟩; refine ⟨_, rfl, ?_⟩; have n0_ := Aside0.mk (Kd.R_lower ho0 (below_size (by repeat (first | (with_reducible first | exact HB.out | apply below_alloc | apply pw_below_drewN | apply below_drew1) | exact HB.out)))); have n1_ := Aside0.mk (below_step (by repeat (first | (with_reducible first | exact HB.out | apply below_alloc | apply pw_below_drewN | apply below_drew1) | exact HB.out)) hb); clear HB; have HO111 := n0_; have HB := n1_; clear n0_ n1_; (try clear hb); (try clear hb2); (try clear hk); (try clear hi); (try clear ho0)) | ((with_reducible refine gate_dst (N := 3) rfl ?_); (try (refine gate_guard (by rfl) ?_; dsimp only)); refine box_event ?hg (N := 3) ?hd (cs := #[.int .u32 0, .int .u32 0, .int .u32 0, .int .u32 0, .int .u32 0, .int .u32 0, .int .u32 0, .int .u32 0, .slice none 0 0, .int .i64 0]) (t := 41) ?hr ?_; (case hd => rfl); (case hg => rfl); (case hr => first | (go_simp; done) | (go_simp; rfl)); intro gb113 hg w4 hbox hb; have n0_ := Aside0.mk (Kd.R_below (by (with_reducible repeat (first | apply Kd.R_alloc | apply Kd.R_drewN | apply Kd.R_drew)); exact HO111.out) hb); have n1_ := Aside0.mk (below_step (by repeat (first | (with_reducible first | exact HB.out | apply below_alloc | apply pw_below_drewN | apply below_drew1) | exact HB.out)) hb); have n2_ := Aside0.mk (hbox); have n3_ := Aside0.mk ((by rw [hg]; exact (below_size (by repeat (first | (with_reducible first | exact HB.out | apply below_alloc | apply pw_below_drewN | apply below_drew1) | exact HB.out))) : w.heap.size ≤ gb113)); have n4_ := Aside0.mk ((by rw [hg]; exact (below_size (by repeat (first | (with_reducible first | exact HB.out | apply below_alloc | apply pw_below_drewN | apply below_drew1) | exact HB.out))) : w.heap.size ≤ gb113)); clear HO111; clear HB; have HO111 := n0_; have HB := n1_; have BK113 := n2_; have GW113 := n3_; have GE113 := n4_; clear n0_ n1_ n2_ n3_ n4_; clear hb hbox hg; have hcz5_0 : w4.cell? ⟨gb113, 0, none⟩ = some (.int .u32 0) := (blk_cell BK113.out 0).trans rfl; have hcz5_1 : w4.cell? ⟨gb113, 1, none⟩ = some (.int .u32 0) := (blk_cell BK113.out 1).trans rfl; have hcz5_2 : w4.cell? ⟨gb113, 2, none⟩ = some (.int .u32 0) := (blk_cell BK113.out 2).trans rfl; have hcz5_3 : w4.cell? ⟨gb113, 3, none⟩ = some (.int .u32 0) := (blk_cell BK113.out 3).trans rfl; have hcz5_4 : w4.cell? ⟨gb113, 4, none⟩ = some (.int .u32 0) := (blk_cell BK113.out 4).trans rfl; have hcz5_5 : w4.cell? ⟨gb113, 5, none⟩ = some (.int .u32 0) := (blk_cell BK113.out 5).trans rfl; have hcz5_6 : w4.cell? ⟨gb113, 6, none⟩ = some (.int .u32 0) := (blk_cell BK113.out 6).trans rfl; have hcz5_7 : w4.cell? ⟨gb113, 7, none⟩ = some (.int .u32 0) := (blk_cell BK113.out 7).trans rfl; have hcz5_8 : w4.cell? ⟨gb113, 8, none⟩ = some (.slice none 0 0) := (blk_cell BK113.out 8).trans rfl; have hcz5_9 : w4.cell? ⟨gb113, 9, none⟩ = some (.int .i64 0) := (blk_cell BK113.out 9).trans rfl; have hfz5_0 := blk_frozen BK113.out 0; have hfz5_1 := blk_frozen BK113.out 1; have hfz5_2 := blk_frozen BK113.out 2; have hfz5_3 := blk_frozen BK113.out 3; have hfz5_4 := blk_frozen BK113.out 4; have hfz5_5 := blk_frozen BK113.out 5; have hfz5_6 := blk_frozen BK113.out 6; have hfz5_7 := blk_frozen BK113.out 7; have hfz5_8 := blk_frozen BK113.out 8; have hfz5_9 := blk_frozen BK113.out 9; obtain ⟨Ao6, co6, eo6⟩ := Kd.R_slice HO111.out; subst eo6))
 go_loopg [4, 5] k (fun kq v4 v5 w' => ∃ (x4_1 : List Int) (x5_1 : Int) (x114000_1 : Int) (x114001_1 : Int) (x114002_1 : Int) (x114003_1 : Int) (x114004_1 : Int) (x114005_1 : Int) (x114006_1 : Int) (x114007_1 : Int) (x114008_1 : List Int) (x114009_1 : Int) (u114008 : Value), v5 = .int .i64 x5_1 ∧ Aside0 (rubricklaw01_ShaParts.l0 kq l0 x4_1 x5_1 x114000_1 x114001_1 x114002_1 x114003_1 x114004_1 x114005_1 x114006_1 x114007_1 x114008_1 x114009_1 = some true) ∧ Aside0 (kq ≤ k) ∧ Aside0 (Kd.R (Kd.int .u8) 5 w' w.heap.size (fun k_ => some k_ ≠ (u114008 : Value).ownBlock) v4 x4_1) ∧ Aside0 (Kd.R (Kd.int .u8) 5 w' w.heap.size (fun k_ => some k_ ≠ (v4 : Value).ownBlock) u114008 x114008_1) ∧ Aside0 (w'.heap[gb113]? = some (.cells #[.int .u32 x114000_1, .int .u32 x114001_1, .int .u32 x114002_1, .int .u32 x114003_1, .int .u32 x114004_1, .int .u32 x114005_1, .int .u32 x114006_1, .int .u32 x114007_1, u114008, .int .i64 x114009_1] 41 (0, 0))) ∧ Aside0 (Below w.heap.size w w'))
 case atStart => exact ⟨(([] : List Int)), (0), (t101), (t102), (t103), (t104), (t105), (t106), (t107), (t108), (t109), (t112), (.slice Ao6 t109.length co6), (by first | rfl | (simp; done) | (simp [*]; done)), H', ⟨Nat.le_refl _⟩, ⟨by first | exact Kd.R_nil _ _ _ _ _ | exact Kd.N_nil _ _ _ _ _ | exact Kd.V_nil _ _ _ _ _ | exact Kd.Q_nil _ _ _ _ _ | exact Kd.S_nil _ _ _ _ _⟩, ⟨by (with_reducible repeat (first | apply Kd.R_alloc | apply Kd.R_drewN | apply Kd.R_drew)); exact Kd.R_mono (Kd.R_far (p := ⟨gb113, 9, none⟩) (Kd.R_far (p := ⟨gb113, 8, none⟩) (Kd.R_far (p := ⟨gb113, 7, none⟩) (Kd.R_far (p := ⟨gb113, 6, none⟩) (Kd.R_far (p := ⟨gb113, 5, none⟩) (Kd.R_far (p := ⟨gb113, 4, none⟩) (Kd.R_far (p := ⟨gb113, 3, none⟩) (Kd.R_far (p := ⟨gb113, 2, none⟩) (Kd.R_far (p := ⟨gb113, 1, none⟩) (Kd.R_far (p := ⟨gb113, 0, none⟩) (Kd.R_types HO111.out BK113.out (by decide)) (fun _ hk => hk.2) (.int .u32 t101)) (fun _ hk => hk.2) (.int .u32 t102)) (fun _ hk => hk.2) (.int .u32 t103)) (fun _ hk => hk.2) (.int .u32 t104)) (fun _ hk => hk.2) (.int .u32 t105)) (fun _ hk => hk.2) (.int .u32 t106)) (fun _ hk => hk.2) (.int .u32 t107)) (fun _ hk => hk.2) (.int .u32 t108)) (fun _ hk => hk.2) (.slice Ao6 t109.length co6)) (fun _ hk => hk.2) (.int .i64 t112)) (fun _ hk => (by simp [Value.ownBlock]))⟩, ⟨by (with_reducible repeat (first | refine blk_drewN ?_ _ | refine blk_drew ?_ | refine blk_alloc ?_ _)); refine blk_put (cs := #[.int .u32 t101, .int .u32 t102, .int .u32 t103, .int .u32 t104, .int .u32 t105, .int .u32 t106, .int .u32 t107, .int .u32 t108, .slice Ao6 t109.length co6, .int .i64 0]) ?_ 9 _ rfl; (with_reducible repeat (first | refine blk_drewN ?_ _ | refine blk_drew ?_ | refine blk_alloc ?_ _)); refine blk_put (cs := #[.int .u32 t101, .int .u32 t102, .int .u32 t103, .int .u32 t104, .int .u32 t105, .int .u32 t106, .int .u32 t107, .int .u32 t108, .slice none 0 0, .int .i64 0]) ?_ 8 _ rfl; (with_reducible repeat (first | refine blk_drewN ?_ _ | refine blk_drew ?_ | refine blk_alloc ?_ _)); refine blk_put (cs := #[.int .u32 t101, .int .u32 t102, .int .u32 t103, .int .u32 t104, .int .u32 t105, .int .u32 t106, .int .u32 t107, .int .u32 0, .slice none 0 0, .int .i64 0]) ?_ 7 _ rfl; (with_reducible repeat (first | refine blk_drewN ?_ _ | refine blk_drew ?_ | refine blk_alloc ?_ _)); refine blk_put (cs := #[.int .u32 t101, .int .u32 t102, .int .u32 t103, .int .u32 t104, .int .u32 t105, .int .u32 t106, .int .u32 0, .int .u32 0, .slice none 0 0, .int .i64 0]) ?_ 6 _ rfl; (with_reducible repeat (first | refine blk_drewN ?_ _ | refine blk_drew ?_ | refine blk_alloc ?_ _)); refine blk_put (cs := #[.int .u32 t101, .int .u32 t102, .int .u32 t103, .int .u32 t104, .int .u32 t105, .int .u32 0, .int .u32 0, .int .u32 0, .slice none 0 0, .int .i64 0]) ?_ 5 _ rfl; (with_reducible repeat (first | refine blk_drewN ?_ _ | refine blk_drew ?_ | refine blk_alloc ?_ _)); refine blk_put (cs := #[.int .u32 t101, .int .u32 t102, .int .u32 t103, .int .u32 t104, .int .u32 0, .int .u32 0, .int .u32 0, .int .u32 0, .slice none 0 0, .int .i64 0]) ?_ 4 _ rfl; (with_reducible repeat (first | refine blk_drewN ?_ _ | refine blk_drew ?_ | refine blk_alloc ?_ _)); refine blk_put (cs := #[.int .u32 t101, .int .u32 t102, .int .u32 t103, .int .u32 0, .int .u32 0, .int .u32 0, .int .u32 0, .int .u32 0, .slice none 0 0, .int .i64 0]) ?_ 3 _ rfl; (with_reducible repeat (first | refine blk_drewN ?_ _ | refine blk_drew ?_ | refine blk_alloc ?_ _)); refine blk_put (cs := #[.int .u32 t101, .int .u32 t102, .int .u32 0, .int .u32 0, .int .u32 0, .int .u32 0, .int .u32 0, .int .u32 0, .slice none 0 0, .int .i64 0]) ?_ 2 _ rfl; (with_reducible repeat (first | refine blk_drewN ?_ _ | refine blk_drew ?_ | refine blk_alloc ?_ _)); refine blk_put (cs := #[.int .u32 t101, .int .u32 0, .int .u32 0, .int .u32 0, .int .u32 0, .int .u32 0, .int .u32 0, .int .u32 0, .slice none 0 0, .int .i64 0]) ?_ 1 _ rfl; (with_reducible repeat (first | refine blk_drewN ?_ _ | refine blk_drew ?_ | refine blk_alloc ?_ _)); refine blk_put (cs := #[.int .u32 0, .int .u32 0, .int .u32 0, .int .u32 0, .int .u32 0, .int .u32 0, .int .u32 0, .int .u32 0, .slice none 0 0, .int .i64 0]) ?_ 0 _ rfl; (with_reducible repeat (first | refine blk_drewN ?_ _ | refine blk_drew ?_ | refine blk_alloc ?_ _)); exact BK113.out⟩, ⟨by repeat (first | (with_reducible first | exact HB.out | apply below_alloc | apply pw_below_drewN | apply below_drew1 | refine below_set ?_ GE113.out) | exact HB.out)⟩⟩
 case round =>
  clear H'
  try clear c2
  try clear p2
  try clear hcz5_0
  try clear hcz5_1
  try clear hcz5_2
  try clear hcz5_3
  try clear hcz5_4
  try clear hcz5_5
  try clear hcz5_6
  try clear hcz5_7
  try clear hcz5_8
  try clear hcz5_9
  try clear hfz5_0
  try clear hfz5_1
  try clear hfz5_2
  try clear hfz5_3
  try clear hfz5_4
  try clear hfz5_5
  try clear hfz5_6
  try clear hfz5_7
  try clear hfz5_8
  try clear hfz5_9
  obtain ⟨x4_1, x5_1, x114000_1, x114001_1, x114002_1, x114003_1, x114004_1, x114005_1, x114006_1, x114007_1, x114008_1, x114009_1, u114008, rfl, HA, HK1, HO_4, HO_114008, BK113, HB⟩ := hrel
  cases gk with
  | zero => exact absurd HA.out (by simp [rubricklaw01_ShaParts.l0])
  | succ k1 =>
   have H := HA.out
   clear HA
   simp only [rubricklaw01_ShaParts.l0] at H
   have HC7 := Aside0.mk H
   clear H
   go_upto_region 4 with (fail)
   go_cut [14] (fun v14 wc => ∃ (kq : Nat) (x14_6 : Bool), v14 = .bool x14_6 ∧ Aside0 (rubricklaw01_ShaParts.j1 kq l0 x4_1 x5_1 x14_6 x114000_1 x114001_1 x114002_1 x114003_1 x114004_1 x114005_1 x114006_1 x114007_1 x114008_1 x114009_1 = some true) ∧ Aside0 (kq ≤ k1) ∧ Aside0 (Kd.R (Kd.int .u8) 5 wc w.heap.size (fun k_ => some k_ ≠ (u114008 : Value).ownBlock) u4 x4_1) ∧ Aside0 (Kd.R (Kd.int .u8) 5 wc w.heap.size (fun k_ => some k_ ≠ (u4 : Value).ownBlock) u114008 x114008_1) ∧ Aside0 (wc.heap[gb113]? = some (.cells #[.int .u32 x114000_1, .int .u32 x114001_1, .int .u32 x114002_1, .int .u32 x114003_1, .int .u32 x114004_1, .int .u32 x114005_1, .int .u32 x114006_1, .int .u32 x114007_1, u114008, .int .i64 x114009_1] 41 (0, 0))) ∧ Aside0 (Below w.heap.size w wc))
   case first =>
    have H := HC7.out
    clear HC7
    by_cases c8 : x5_1 < (l0.length : Int)
    ·rw [if_pos c8] at H
     have c8b0 : decide (x5_1 < (l0.length : Int)) = true := decide_eq_true c8
     clear c8
     (first | rw [c8b0] | (simp only [i64_w, i32_w]; rw [c8b0]) | skip)
     have H' := Aside0.mk H
     clear H
     go_wp2
     go_meet
     case rel => exact ⟨_, (decide (x5_1 < 20)), (by first | rfl | (simp; done) | (simp [*]; done)), H', ⟨by have := HK1.out; first | omega | exact Nat.le_refl _⟩, ⟨by (with_reducible repeat (first | apply Kd.R_alloc | apply Kd.R_drewN | apply Kd.R_drew)); exact HO_4.out⟩, ⟨by (with_reducible repeat (first | apply Kd.R_alloc | apply Kd.R_drewN | apply Kd.R_drew)); exact HO_114008.out⟩, ⟨by (with_reducible repeat (first | refine blk_drewN ?_ _ | refine blk_drew ?_ | refine blk_alloc ?_ _)); exact BK113.out⟩, ⟨by repeat (first | (with_reducible first | exact HB.out | apply below_alloc | apply pw_below_drewN | apply below_drew1 | refine below_set ?_ GE113.out) | exact HB.out)⟩⟩
    ·rw [if_neg c8] at H
     have c8b0 : decide (x5_1 < (l0.length : Int)) = false := decide_eq_false c8
     clear c8
     (first | rw [c8b0] | (simp only [i64_w, i32_w]; rw [c8b0]) | skip)
     have H' := Aside0.mk H
     clear H
     go_wp2
     go_meet
     case rel => exact ⟨_, (false), (by first | rfl | (simp; done) | (simp [*]; done)), H', ⟨by have := HK1.out; first | omega | exact Nat.le_refl _⟩, ⟨by (with_reducible repeat (first | apply Kd.R_alloc | apply Kd.R_drewN | apply Kd.R_drew)); exact HO_4.out⟩, ⟨by (with_reducible repeat (first | apply Kd.R_alloc | apply Kd.R_drewN | apply Kd.R_drew)); exact HO_114008.out⟩, ⟨by (with_reducible repeat (first | refine blk_drewN ?_ _ | refine blk_drew ?_ | refine blk_alloc ?_ _)); exact BK113.out⟩, ⟨by repeat (first | (with_reducible first | exact HB.out | apply below_alloc | apply pw_below_drewN | apply below_drew1 | refine below_set ?_ GE113.out) | exact HB.out)⟩⟩
   case rest =>
    clear HC7
    try clear c2
    try clear p2
    try clear c7
    try clear c8
    try clear c8b0
    try clear hcz5_0
    try clear hcz5_1
    try clear hcz5_2
    try clear hcz5_3
    try clear hcz5_4
    try clear hcz5_5
    try clear hcz5_6
    try clear hcz5_7
    try clear hcz5_8
    try clear hcz5_9
    try clear hfz5_0
    try clear hfz5_1
    try clear hfz5_2
    try clear hfz5_3
    try clear hfz5_4
    try clear hfz5_5
    try clear hfz5_6
    try clear hfz5_7
    try clear hfz5_8
    try clear hfz5_9
    try clear p2
    obtain ⟨kq, x14_6, rfl, HA, HJ6, HO_4, HO_114008, BK113, HB⟩ := hcut
    cases kq with
    | zero => exact absurd HA.out (by simp [rubricklaw01_ShaParts.j1])
    | succ kj6 =>
     have H := HA.out
     clear HA
     simp only [rubricklaw01_ShaParts.j1] at H
     by_cases c9 : x14_6 = true
     ·subst c9
      have H1 : (if 0 ≤ x5_1 then (if x5_1 < (l0.length : Int) then (if ((rd_L1 l0 x5_1).length : Int) > 1000 then (rubricklaw01_ShaParts.l0 kj6 l0 x4_1 (wrap64 (x5_1 + 1)) x114000_1 x114001_1 x114002_1 x114003_1 x114004_1 x114005_1 x114006_1 x114007_1 x114008_1 x114009_1) else ((some (([] : List Int) : List Int)).bind fun y116 => (if y116.length + (rd_L1 l0 x5_1).length < 140737488355328 then ((sha_Add.f x114000_1 x114001_1 x114002_1 x114003_1 x114004_1 x114005_1 x114006_1 x114007_1 x114008_1 x114009_1 (y116 ++ (rd_L1 l0 x5_1))).bind fun bt123 => (if x4_1.length + (rd_L1 l0 x5_1).length < 140737488355328 then ((some (x4_1 ++ (rd_L1 l0 x5_1) : List Int)).bind fun y136 => (if bt123.2.2.2.2.2.2.2.2.2 = (y136.length : Int) then (if (bt123.2.2.2.2.2.2.2.2.1.length : Int) = ((y136.length : Int) % 64) then ((sha_End.f bt123.1 bt123.2.1 bt123.2.2.1 bt123.2.2.2.1 bt123.2.2.2.2.1 bt123.2.2.2.2.2.1 bt123.2.2.2.2.2.2.1 bt123.2.2.2.2.2.2.2.1 bt123.2.2.2.2.2.2.2.2.1 bt123.2.2.2.2.2.2.2.2.2).bind fun t139 => ((rubrickref01_Sum.f kj6 y136).bind fun t140 => (if t139.toList = t140.toList then (rubricklaw01_ShaParts.l0 kj6 l0 y136 (wrap64 (x5_1 + 1)) bt123.1 bt123.2.1 bt123.2.2.1 bt123.2.2.2.1 bt123.2.2.2.2.1 bt123.2.2.2.2.2.1 bt123.2.2.2.2.2.2.1 bt123.2.2.2.2.2.2.2.1 bt123.2.2.2.2.2.2.2.2.1 bt123.2.2.2.2.2.2.2.2.2) else (some false)))) else (some false)) else (some false))) else (none))) else (none)))) else (none)) else (none)) = some true := by rw [if_pos rfl] at H; exact H
      clear H
      have H := H1
      clear H1
      by_cases c10 : 0 ≤ x5_1
      ·rw [if_pos c10] at H
       have c10b0 : decide (0 ≤ x5_1) = true := decide_eq_true c10
       clear c10
       by_cases c11 : x5_1 < (l0.length : Int)
       ·rw [if_pos c11] at H
        have c11b0 : decide (x5_1 < (l0.length : Int)) = true := decide_eq_true c11
        clear c11
        by_cases c12 : ((rd_L1 l0 x5_1).length : Int) > 1000
        ·rw [if_pos c12] at H
         have c12b0 : decide (1000 < ((rd_L1 l0 x5_1).length : Int)) = true := decide_eq_true c12
         have c12b1 : decide (1000 < (rd_L1 l0 x5_1).length) = true := decide_eq_true (by omega)
         clear c12
         have H' := Aside0.mk H
         clear H
         have p115 : 0 ≤ (x5_1 : Int) := of_decide_eq_true (by first | (with_reducible assumption) | assumption)
         have q115 : x5_1 < (l0.length : Int) := of_decide_eq_true (by first | (with_reducible assumption) | assumption)
         obtain ⟨ad115, A115_0, c115_0, e115, hx115_0, hl115_0, hi115_0⟩ := at_L1 HR0.out x5_1 p115 q115
         cases e115
         replace hx115_0 := (HB.out.cell (World.block_lt_of_cell? w _ hx115_0)).trans hx115_0
         have HR115_0 := Aside0.mk hi115_0
         have HC115_0 := Aside0.mk hl115_0
         clear hi115_0 hl115_0
         replace p115 := eq_true p115
         replace q115 := eq_true q115
         go_wp2
         go_roundg kj6
         case measure => have := HK1.out; have := HJ6.out; omega
         case rel => exact ⟨(x4_1), (wrap64 (x5_1 + 1)), (x114000_1), (x114001_1), (x114002_1), (x114003_1), (x114004_1), (x114005_1), (x114006_1), (x114007_1), (x114008_1), (x114009_1), (u114008), (by first | rfl | (simp; done) | (simp [*]; done)), H', ⟨by have := HK1.out; have := HJ6.out; omega⟩, ⟨by (with_reducible repeat (first | apply Kd.R_alloc | apply Kd.R_drewN | apply Kd.R_drew)); exact HO_4.out⟩, ⟨by (with_reducible repeat (first | apply Kd.R_alloc | apply Kd.R_drewN | apply Kd.R_drew)); exact HO_114008.out⟩, ⟨by (with_reducible repeat (first | refine blk_drewN ?_ _ | refine blk_drew ?_ | refine blk_alloc ?_ _)); exact BK113.out⟩, ⟨by repeat (first | (with_reducible first | exact HB.out | apply below_alloc | apply pw_below_drewN | apply below_drew1 | refine below_set ?_ GE113.out) | exact HB.out)⟩⟩
        ·rw [if_neg c12] at H
         have c12b0 : decide (1000 < ((rd_L1 l0 x5_1).length : Int)) = false := decide_eq_false c12
         have c12b1 : decide (1000 < (rd_L1 l0 x5_1).length) = false := decide_eq_false (by omega)
         clear c12
         obtain ⟨y116, hy116⟩ : ∃ y_ : List Int, y_ = (([] : List Int)) := ⟨_, rfl⟩
         replace H : (if y116.length + (rd_L1 l0 x5_1).length < 140737488355328 then ((sha_Add.f x114000_1 x114001_1 x114002_1 x114003_1 x114004_1 x114005_1 x114006_1 x114007_1 x114008_1 x114009_1 (y116 ++ (rd_L1 l0 x5_1))).bind fun bt123 => (if x4_1.length + (rd_L1 l0 x5_1).length < 140737488355328 then ((some (x4_1 ++ (rd_L1 l0 x5_1) : List Int)).bind fun y136 => (if bt123.2.2.2.2.2.2.2.2.2 = (y136.length : Int) then (if (bt123.2.2.2.2.2.2.2.2.1.length : Int) = ((y136.length : Int) % 64) then ((sha_End.f bt123.1 bt123.2.1 bt123.2.2.1 bt123.2.2.2.1 bt123.2.2.2.2.1 bt123.2.2.2.2.2.1 bt123.2.2.2.2.2.2.1 bt123.2.2.2.2.2.2.2.1 bt123.2.2.2.2.2.2.2.2.1 bt123.2.2.2.2.2.2.2.2.2).bind fun t139 => ((rubrickref01_Sum.f kj6 y136).bind fun t140 => (if t139.toList = t140.toList then (rubricklaw01_ShaParts.l0 kj6 l0 y136 (wrap64 (x5_1 + 1)) bt123.1 bt123.2.1 bt123.2.2.1 bt123.2.2.2.1 bt123.2.2.2.2.1 bt123.2.2.2.2.2.1 bt123.2.2.2.2.2.2.1 bt123.2.2.2.2.2.2.2.1 bt123.2.2.2.2.2.2.2.2.1 bt123.2.2.2.2.2.2.2.2.2) else (some false)))) else (some false)) else (some false))) else (none))) else (none)) = some true := by first | (rw [hy116]; with_reducible exact H) | (have H2_ := (Option.bind_some _ _).symm.trans H; rw [hy116]; with_reducible exact H2_) | (have H2_ := (Option.bind_some _ _).symm.trans H; with_reducible exact H2_) | with_reducible exact H | (rw [hy116]; exact H) | exact H
         have Ny116 := Aside0.mk hy116
         clear hy116
         by_cases c13 : y116.length + (rd_L1 l0 x5_1).length < 140737488355328
         ·rw [if_pos c13] at H
          have LMc13 := Aside0.mk c13
          clear c13
          obtain ⟨y120, hy120⟩ : ∃ y_ : List Int, y_ = (y116 ++ (rd_L1 l0 x5_1)) := ⟨_, rfl⟩
          replace H : ((sha_Add.f x114000_1 x114001_1 x114002_1 x114003_1 x114004_1 x114005_1 x114006_1 x114007_1 x114008_1 x114009_1 y120).bind fun bt123 => (if x4_1.length + (rd_L1 l0 x5_1).length < 140737488355328 then ((some (x4_1 ++ (rd_L1 l0 x5_1) : List Int)).bind fun y136 => (if bt123.2.2.2.2.2.2.2.2.2 = (y136.length : Int) then (if (bt123.2.2.2.2.2.2.2.2.1.length : Int) = ((y136.length : Int) % 64) then ((sha_End.f bt123.1 bt123.2.1 bt123.2.2.1 bt123.2.2.2.1 bt123.2.2.2.2.1 bt123.2.2.2.2.2.1 bt123.2.2.2.2.2.2.1 bt123.2.2.2.2.2.2.2.1 bt123.2.2.2.2.2.2.2.2.1 bt123.2.2.2.2.2.2.2.2.2).bind fun t139 => ((rubrickref01_Sum.f kj6 y136).bind fun t140 => (if t139.toList = t140.toList then (rubricklaw01_ShaParts.l0 kj6 l0 y136 (wrap64 (x5_1 + 1)) bt123.1 bt123.2.1 bt123.2.2.1 bt123.2.2.2.1 bt123.2.2.2.2.1 bt123.2.2.2.2.2.1 bt123.2.2.2.2.2.2.1 bt123.2.2.2.2.2.2.2.1 bt123.2.2.2.2.2.2.2.2.1 bt123.2.2.2.2.2.2.2.2.2) else (some false)))) else (some false)) else (some false))) else (none))) = some true := by first | (rw [hy120]; with_reducible exact H) | (have H2_ := (Option.bind_some _ _).symm.trans H; rw [hy120]; with_reducible exact H2_) | (have H2_ := (Option.bind_some _ _).symm.trans H; with_reducible exact H2_) | with_reducible exact H | (rw [hy120]; exact H) | exact H
          have Ny120 := Aside0.mk hy120
          clear hy120
          replace H := Option.bind_eq_some_iff.mp H
          obtain ⟨⟨t123, t124, t125, t126, t127, t128, t129, t130, t131, t134⟩, A140, H⟩ := H
          replace H : (if x4_1.length + (rd_L1 l0 x5_1).length < 140737488355328 then ((some (x4_1 ++ (rd_L1 l0 x5_1) : List Int)).bind fun y136 => (if t134 = (y136.length : Int) then (if (t131.length : Int) = ((y136.length : Int) % 64) then ((sha_End.f t123 t124 t125 t126 t127 t128 t129 t130 t131 t134).bind fun t139 => ((rubrickref01_Sum.f kj6 y136).bind fun t140 => (if t139.toList = t140.toList then (rubricklaw01_ShaParts.l0 kj6 l0 y136 (wrap64 (x5_1 + 1)) t123 t124 t125 t126 t127 t128 t129 t130 t131 t134) else (some false)))) else (some false)) else (some false))) else (none)) = some true := H
          have A14 := Aside0.mk A140
          clear A140
          by_cases c15 : x4_1.length + (rd_L1 l0 x5_1).length < 140737488355328
          ·rw [if_pos c15] at H
           have LMc15 := Aside0.mk c15
           clear c15
           obtain ⟨y136, hy136⟩ : ∃ y_ : List Int, y_ = (x4_1 ++ (rd_L1 l0 x5_1)) := ⟨_, rfl⟩
           replace H : (if t134 = (y136.length : Int) then (if (t131.length : Int) = ((y136.length : Int) % 64) then ((sha_End.f t123 t124 t125 t126 t127 t128 t129 t130 t131 t134).bind fun t139 => ((rubrickref01_Sum.f kj6 y136).bind fun t140 => (if t139.toList = t140.toList then (rubricklaw01_ShaParts.l0 kj6 l0 y136 (wrap64 (x5_1 + 1)) t123 t124 t125 t126 t127 t128 t129 t130 t131 t134) else (some false)))) else (some false)) else (some false)) = some true := by first | (rw [hy136]; with_reducible exact H) | (have H2_ := (Option.bind_some _ _).symm.trans H; rw [hy136]; with_reducible exact H2_) | (have H2_ := (Option.bind_some _ _).symm.trans H; with_reducible exact H2_) | with_reducible exact H | (rw [hy136]; exact H) | exact H
           have Ny136 := Aside0.mk hy136
           clear hy136
           by_cases c16 : t134 = (y136.length : Int)
           ·rw [if_pos c16] at H
            have c16b0 : (t134 == (y136.length : Int)) = true := beq_iff_eq.mpr c16
            have c16b1 : (t134 != (y136.length : Int)) = false := bne_eq_false_iff_eq.mpr c16
            clear c16
            by_cases c17 : (t131.length : Int) = ((y136.length : Int) % 64)
            ·rw [if_pos c17] at H
             have c17b0 : ((t131.length : Int) == ((y136.length : Int) % 64)) = true := beq_iff_eq.mpr c17
             have c17b1 : ((t131.length : Int) != ((y136.length : Int) % 64)) = false := bne_eq_false_iff_eq.mpr c17
             clear c17
             replace H := Option.bind_eq_some_iff.mp H
             obtain ⟨t139, A180, H⟩ := H
             replace H : ((rubrickref01_Sum.f kj6 y136).bind fun t140 => (if t139.toList = t140.toList then (rubricklaw01_ShaParts.l0 kj6 l0 y136 (wrap64 (x5_1 + 1)) t123 t124 t125 t126 t127 t128 t129 t130 t131 t134) else (some false))) = some true := H
             have A18 := Aside0.mk A180
             clear A180
             replace H := Option.bind_eq_some_iff.mp H
             obtain ⟨t140, A190, H⟩ := H
             replace H : (if t139.toList = t140.toList then (rubricklaw01_ShaParts.l0 kj6 l0 y136 (wrap64 (x5_1 + 1)) t123 t124 t125 t126 t127 t128 t129 t130 t131 t134) else (some false)) = some true := H
             have A19 := Aside0.mk A190
             clear A190
             by_cases c20 : t139.toList = t140.toList
             ·rw [if_pos c20] at H
              have c20b0 : (t139.toList == t140.toList) = true := beq_iff_eq.mpr c20
              have c20b1 : (t139.toList != t140.toList) = false := bne_eq_false_iff_eq.mpr c20
              clear c20
              have H' := Aside0.mk H
              clear H
              have p115 : 0 ≤ (x5_1 : Int) := of_decide_eq_true (by first | (with_reducible assumption) | assumption)
              have q115 : x5_1 < (l0.length : Int) := of_decide_eq_true (by first | (with_reducible assumption) | assumption)
              obtain ⟨ad115, A115_0, c115_0, e115, hx115_0, hl115_0, hi115_0⟩ := at_L1 HR0.out x5_1 p115 q115
              cases e115
              replace hx115_0 := (HB.out.cell (World.block_lt_of_cell? w _ hx115_0)).trans hx115_0
              have HR115_0 := Aside0.mk hi115_0
              have HC115_0 := Aside0.mk hl115_0
              clear hi115_0 hl115_0
              replace p115 := eq_true p115
              replace q115 := eq_true q115
              try go_wp2
              have n0_ := Aside0.mk (Kd.R_drew HO_4.out)
              have n1_ := Aside0.mk (Kd.R_drew HO_114008.out)
              have n2_ := Aside0.mk (blk_drew BK113.out)
              have n3_ := Aside0.mk (below_drew1 HB.out)
              clear HO_4
              clear HO_114008
              clear BK113
              clear HB
              have HO_4 := n0_
              have HO_114008 := n1_
              have BK113 := n2_
              have HB := n3_
              clear n0_ n1_ n2_ n3_
              have p119 : 0 ≤ (x5_1 : Int) := of_decide_eq_true (by first | (with_reducible assumption) | assumption)
              have q119 : x5_1 < (l0.length : Int) := of_decide_eq_true (by first | (with_reducible assumption) | assumption)
              obtain ⟨ad119, A119_0, c119_0, e119, hx119_0, hl119_0, hi119_0⟩ := at_L1 HR0.out x5_1 p119 q119
              have hw119_0 := hx119_0
              obtain rfl : ad115 = ad119 := (by injection e119)
              replace hx119_0 := (HB.out.cell (World.block_lt_of_cell? w _ hx119_0)).trans hx119_0
              have HR119_0 := Aside0.mk hi119_0
              have HC119_0 := Aside0.mk hl119_0
              clear hi119_0 hl119_0
              replace p119 := eq_true p119
              replace q119 := eq_true q119
              refine start_ (n := 9) (S := fun w' => w'.cell? ⟨gb113, 0, none⟩ = some (.int .u32 x114000_1) ∧ w'.cell? ⟨gb113, 1, none⟩ = some (.int .u32 x114001_1) ∧ w'.cell? ⟨gb113, 2, none⟩ = some (.int .u32 x114002_1) ∧ w'.cell? ⟨gb113, 3, none⟩ = some (.int .u32 x114003_1) ∧ w'.cell? ⟨gb113, 4, none⟩ = some (.int .u32 x114004_1) ∧ w'.cell? ⟨gb113, 5, none⟩ = some (.int .u32 x114005_1) ∧ w'.cell? ⟨gb113, 6, none⟩ = some (.int .u32 x114006_1) ∧ w'.cell? ⟨gb113, 7, none⟩ = some (.int .u32 x114007_1) ∧ w'.cell? ⟨gb113, 8, none⟩ = some (u114008) ∧ w'.cell? ⟨gb113, 9, none⟩ = some (.int .i64 x114009_1) ∧ w'.cell? (ad115.add (x5_1).toNat) = some (.slice A119_0 (rd_L1 l0 x5_1).length c119_0)) (ds := [8]) #[false, false, false, false, false, false, false, false, false] (by kernel_rfl) rfl rfl ⟨(blk_cell BK113.out 0).trans rfl, (blk_cell BK113.out 1).trans rfl, (blk_cell BK113.out 2).trans rfl, (blk_cell BK113.out 3).trans rfl, (blk_cell BK113.out 4).trans rfl, (blk_cell BK113.out 5).trans rfl, (blk_cell BK113.out 6).trans rfl, (blk_cell BK113.out 7).trans rfl, (blk_cell BK113.out 8).trans rfl, (blk_cell BK113.out 9).trans rfl, ((HB.out.cell (World.block_lt_of_cell? w _ hw119_0)).trans hw119_0)⟩ (fun hHeld => ?_); refine with_tabW rubricklaw01_ShaParts.tab7 rubricklaw01_ShaParts.bits7 (fun HT_ HW_ => ?_)
              generalize wc.drew = w21 at HO_4 HO_114008 BK113 HB HR119_0 hx119_0 hHeld ⊢
              refine HBulk.bulkT (fuel := 4) HT_.out HW_.out [(2, some 25, false), (3, some 26, false), (4, some 27, false), (0, some 23, true), (5, some 28, true)] #[true, false, true, true, true, true, false, false, false] (a' := ?_) (by kernel_rfl) rfl hHeld ?_ ?_
              rotate_left
              ·repeat
                refine HBulk.RunsM.cons (v := ?_) (a1 := ?_) rfl rfl (fun _ _ _ h => h) (by rfl) ?_ ?_ ?_
                rotate_left
                ·intro w' hS_; (try (obtain ⟨s0, s1, s2, s3, s4, s5, s6, s7, s8, s9, s10⟩ := hS_ rfl))
                 go_simp
                 with_reducible rfl
                rotate_left
                ·simp only [Act.put, List.setIfInBounds_toArray, List.set_cons_zero, List.set_cons_succ, i64_w, i32_w]
                 rfl
               exact HBulk.RunsM.nil
              refine one_ (i := 1) (N := some 24) #[true, true, true, true, true, true, false, false, false] rfl rfl (one_of HT_.out (by kernel_rfl)) (by decide) (fun K hK => ?_)
              refine Kd.R_lit_step (Kd.int .u8) _ 5 ?hg (N := 24) ?hd (xs := ([] : List Int)) (inner := []) (ok := fun _ => True) (okp := fun _ => True) ?hr ?hp (fun _ hk => hk) trivial (Below.refl _ _) (Nat.le_refl _) (by simp) ?_; (case hd => rfl); (case hg => rfl); (case hr => first | (go_simp; done) | (go_simp; rfl)); (case hp => exact (Reps.none _ _))
              intro v117 w22 ho23 hb hg_ hnew_
              clear hg_ hnew_
              (first | rw [← Ny116.out] at ho23 | (simp only [Int.reduceToNat] at ho23; rw [← Ny116.out] at ho23))
              have n0_ := Aside0.mk (Kd.R_elder' (by (with_reducible repeat (first | apply Kd.R_alloc | apply Kd.R_drewN | apply Kd.R_drew)); exact HO_4.out) (Kd.R_base ho23) hb)
              have n1_ := Aside0.mk (Kd.R_elder' (by (with_reducible repeat (first | apply Kd.R_alloc | apply Kd.R_drewN | apply Kd.R_drew)); exact HO_114008.out) (Kd.R_base ho23) hb)
              have n2_ := Aside0.mk (Kd.R_lower (Kd.R_new' (Kd.R_new' ho23 (Kd.R_lt (by (with_reducible repeat (first | apply Kd.R_alloc | apply Kd.R_drewN | apply Kd.R_drew)); exact HO_4.out))) (Kd.R_lt (by (with_reducible repeat (first | apply Kd.R_alloc | apply Kd.R_drewN | apply Kd.R_drew)); exact HO_114008.out))) (below_size (by repeat (first | (with_reducible first | exact HB.out | apply below_alloc | apply pw_below_drewN | apply below_drew1 | refine below_set ?_ GE113.out) | exact HB.out))))
              have n3_ := Aside0.mk (blk_below (g := gb113) (o := .cells #[.int .u32 x114000_1, .int .u32 x114001_1, .int .u32 x114002_1, .int .u32 x114003_1, .int .u32 x114004_1, .int .u32 x114005_1, .int .u32 x114006_1, .int .u32 x114007_1, u114008, .int .i64 x114009_1] 41 (0, 0)) (by (with_reducible repeat (first | refine blk_drewN ?_ _ | refine blk_drew ?_ | refine blk_alloc ?_ _)); exact BK113.out) hb)
              have n4_ := Aside0.mk (below_step (by repeat (first | (with_reducible first | exact HB.out | apply below_alloc | apply pw_below_drewN | apply below_drew1 | refine below_set ?_ GE113.out) | exact HB.out)) hb)
              clear HO_4
              clear HO_114008
              clear BK113
              clear HB
              have HO_4 := n0_
              have HO_114008 := n1_
              have HO118 := n2_
              have BK113 := n3_
              have HB := n4_
              clear n0_ n1_ n2_ n3_ n4_
              clear hb ho23
              refine hK.out _ _ ⟨(blk_cell BK113.out 0).trans rfl, (blk_cell BK113.out 1).trans rfl, (blk_cell BK113.out 2).trans rfl, (blk_cell BK113.out 3).trans rfl, (blk_cell BK113.out 4).trans rfl, (blk_cell BK113.out 5).trans rfl, (blk_cell BK113.out 6).trans rfl, (blk_cell BK113.out 7).trans rfl, (blk_cell BK113.out 8).trans rfl, (blk_cell BK113.out 9).trans rfl, ((HB.out.cell (World.block_lt_of_cell? w _ hw119_0)).trans hw119_0)⟩ (fun hHeld => ?_)
              clear hK K
              refine norm_ (a' := ?_) ?_ ?_
              rotate_left
              ·show Act.put _ (some 24) _ = _
               simp only [Act.put, List.setIfInBounds_toArray, List.set_cons_zero, List.set_cons_succ, i64_w, i32_w]
               rfl
              refine one_ (i := 6) (N := some 29) #[true, true, true, true, true, true, true, false, false] rfl rfl (one_of HT_.out (by kernel_rfl)) (by decide) (fun K hK => ?_)
              refine Kd.R_append_rows_step (Kd.int .u8) (w0 := w) w.heap.size (by rfl) (.tmp 24) (.tmp 28) 22 5 (.int .u8 0) 1 rfl Tryd.underlying22 info5 rfl (by decide) (by omega) v117 y116 (rd_L1 l0 x5_1) _ _ _ (fun k_ => some k_ ≠ (u4 : Value).ownBlock ∧ some k_ ≠ (u114008 : Value).ownBlock) (fun _ => False) rfl rfl ?aO ?aR (fun _ _ h => h) (fun _ h => h.elim) ?aF ?aB ?aS ?aL ?_
              (case aR => repeat (first | exact (Kd.C_below HR119_0.out HB.out) | (with_reducible refine Kd.C_alloc ?_ _) | (with_reducible refine Kd.C_drewN ?_ _) | (with_reducible refine Kd.C_drew ?_)))
              (case aB => exact (by repeat (first | (with_reducible first | exact HB.out | apply below_alloc | apply pw_below_drewN | apply below_drew1 | refine below_set ?_ GE113.out) | exact HB.out)))
              (case aF => exact (fun k_ hk => ⟨Kd.fresh' (Kd.R_lt (by (with_reducible repeat (first | apply Kd.R_alloc | apply Kd.R_drewN | apply Kd.R_drew)); exact HO_4.out)) k_ hk, Kd.fresh' (Kd.R_lt (by (with_reducible repeat (first | apply Kd.R_alloc | apply Kd.R_drewN | apply Kd.R_drew)); exact HO_114008.out)) k_ hk⟩))
              (case aO => exact (by (with_reducible repeat (first | apply Kd.R_alloc | apply Kd.R_drewN | apply Kd.R_drew)); exact Kd.R_mono HO118.out (fun _ hk => ⟨hk.1.2, hk.2⟩)))
              (case aS => exact (below_size (by repeat (first | (with_reducible first | exact HB.out | apply below_alloc | apply pw_below_drewN | apply below_drew1 | refine below_set ?_ GE113.out) | exact HB.out))))
              (case aL => have := LMc13.out; omega)
              intro v121 w24 ho hb hg hat
              rw [← Ny120.out] at ho
              have n0_ := Aside0.mk (Kd.R_after (ok := (fun k_ => some k_ ≠ (u114008 : Value).ownBlock)) (by (with_reducible repeat (first | apply Kd.R_alloc | apply Kd.R_drewN | apply Kd.R_drew)); exact HO_4.out) hg hat)
              have n1_ := Aside0.mk (Kd.R_after (ok := (fun k_ => some k_ ≠ (u4 : Value).ownBlock)) (by (with_reducible repeat (first | apply Kd.R_alloc | apply Kd.R_drewN | apply Kd.R_drew)); exact HO_114008.out) hg hat)
              have n2_ := Aside0.mk (blk_grown (g := gb113) (o := .cells #[.int .u32 x114000_1, .int .u32 x114001_1, .int .u32 x114002_1, .int .u32 x114003_1, .int .u32 x114004_1, .int .u32 x114005_1, .int .u32 x114006_1, .int .u32 x114007_1, u114008, .int .i64 x114009_1] 41 (0, 0)) (by (with_reducible repeat (first | refine blk_drewN ?_ _ | refine blk_drew ?_ | refine blk_alloc ?_ _)); exact BK113.out) hg (Kd.R_ne HO118.out BK113.out (by decide)))
              have n3_ := Aside0.mk (hb)
              have n4_ := Aside0.mk (ho)
              clear HO_4
              clear HO_114008
              clear BK113
              clear HB
              clear HO118
              have HO_4 := n0_
              have HO_114008 := n1_
              have BK113 := n2_
              have HB := n3_
              have HO122 := n4_
              clear n0_ n1_ n2_ n3_ n4_
              clear ho hb hg hat
              obtain ⟨Ao25, co25, eo25⟩ := Kd.R_slice HO_114008.out
              (first | subst eo25 | (injection eo25 with f1_ f2_ f3_; have f4_ := f1_.symm; have f5_ := f3_.symm; clear f1_ f2_ f3_; subst f4_; subst f5_))
              obtain ⟨Ao26, co26, eo26⟩ := Kd.R_slice HO122.out
              (first | subst eo26 | (injection eo26 with f1_ f2_ f3_; have f4_ := f1_.symm; have f5_ := f3_.symm; clear f1_ f2_ f3_; subst f4_; subst f5_))
              refine hK.out _ _ ⟨(blk_cell BK113.out 0).trans rfl, (blk_cell BK113.out 1).trans rfl, (blk_cell BK113.out 2).trans rfl, (blk_cell BK113.out 3).trans rfl, (blk_cell BK113.out 4).trans rfl, (blk_cell BK113.out 5).trans rfl, (blk_cell BK113.out 6).trans rfl, (blk_cell BK113.out 7).trans rfl, (blk_cell BK113.out 8).trans rfl, (blk_cell BK113.out 9).trans rfl, ((HB.out.cell (World.block_lt_of_cell? w _ hw119_0)).trans hw119_0)⟩ (fun hHeld => ?_)
              clear hK K
              refine norm_ (a' := ?_) ?_ ?_
              rotate_left
              ·show Act.put _ (some 29) _ = _
               simp only [Act.put, List.setIfInBounds_toArray, List.set_cons_zero, List.set_cons_succ, i64_w, i32_w]
               rfl
              refine one_ (i := 7) (N := some 30) #[true, true, true, true, true, true, true, true, false] rfl rfl (one_of HT_.out (by kernel_rfl)) (by decide) (fun K hK => ?_)
              refine goes_ Tryd.func30 (by kernel_rfl) rfl #[.agg #[.int .u32 x114000_1, .int .u32 x114001_1, .int .u32 x114002_1, .int .u32 x114003_1, .int .u32 x114004_1, .int .u32 x114005_1, .int .u32 x114006_1, .int .u32 x114007_1, .slice Ao25 x114008_1.length co25, .int .i64 x114009_1], .slice Ao26 y120.length co26] (by rfl) rfl rfl (by (try simp only [List.map_toArray, List.map_cons, List.map_nil]); first | done | rfl | (simp only [List.length_drop, List.length_take]; rfl)) ?_
              with_reducible refine (sha_Add.calls x114000_1 x114001_1 x114002_1 x114003_1 x114004_1 x114005_1 x114006_1 x114007_1 _ _ x114008_1 x114009_1 _ _ y120 t123 t124 t125 t126 t127 t128 t129 t130 t131 t134 _ ?side5 ?side1 ?side2 ?side3 ?side4 A14.out).mono ?_
              (case side1 => repeat (first | exact (Kd.R_reads' HO_114008.out).2.2 | (with_reducible refine Kd.C_alloc ?_ _) | (with_reducible refine Kd.C_drewN ?_ _) | (with_reducible refine Kd.C_drew ?_)))
              (case side2 => exact (Kd.R_reads' HO_114008.out).2.1)
              (case side3 => repeat (first | exact (Kd.R_reads' HO122.out).2.2 | (with_reducible refine Kd.C_alloc ?_ _) | (with_reducible refine Kd.C_drewN ?_ _) | (with_reducible refine Kd.C_drew ?_)))
              (case side4 => exact (Kd.R_reads' HO122.out).2.1)
              (case side5 => exact gw_step hG_ (by repeat (first | (with_reducible first | exact HB.out | apply below_alloc | apply pw_below_drewN | apply below_drew1 | refine below_set ?_ GE113.out) | exact HB.out)))
              rintro e w27 ⟨v132, rfl, ho0, hb⟩
              refine ⟨_, rfl, ?_⟩
              have n0_ := Aside0.mk (Kd.R_elder' (by (with_reducible repeat (first | apply Kd.R_alloc | apply Kd.R_drewN | apply Kd.R_drew)); exact HO_4.out) (Kd.R_base ho0) hb)
              have n1_ := Aside0.mk (Kd.R_elder' (by (with_reducible repeat (first | apply Kd.R_alloc | apply Kd.R_drewN | apply Kd.R_drew)); exact HO_114008.out) (Kd.R_base ho0) hb)
              have n2_ := Aside0.mk (Kd.R_elder' (by (with_reducible repeat (first | apply Kd.R_alloc | apply Kd.R_drewN | apply Kd.R_drew)); exact HO122.out) (Kd.R_base ho0) hb)
              have n3_ := Aside0.mk (Kd.R_lower (Kd.R_new' (Kd.R_new' (Kd.R_new' ho0 (Kd.R_lt (by (with_reducible repeat (first | apply Kd.R_alloc | apply Kd.R_drewN | apply Kd.R_drew)); exact HO_4.out))) (Kd.R_lt (by (with_reducible repeat (first | apply Kd.R_alloc | apply Kd.R_drewN | apply Kd.R_drew)); exact HO_114008.out))) (Kd.R_lt (by (with_reducible repeat (first | apply Kd.R_alloc | apply Kd.R_drewN | apply Kd.R_drew)); exact HO122.out))) (below_size (by repeat (first | (with_reducible first | exact HB.out | apply below_alloc | apply pw_below_drewN | apply below_drew1 | refine below_set ?_ GE113.out) | exact HB.out))))
              have n4_ := Aside0.mk (blk_below (g := gb113) (o := .cells #[.int .u32 x114000_1, .int .u32 x114001_1, .int .u32 x114002_1, .int .u32 x114003_1, .int .u32 x114004_1, .int .u32 x114005_1, .int .u32 x114006_1, .int .u32 x114007_1, .slice Ao25 x114008_1.length co25, .int .i64 x114009_1] 41 (0, 0)) (by (with_reducible repeat (first | refine blk_drewN ?_ _ | refine blk_drew ?_ | refine blk_alloc ?_ _)); exact BK113.out) hb)
              have n5_ := Aside0.mk (below_step (by repeat (first | (with_reducible first | exact HB.out | apply below_alloc | apply pw_below_drewN | apply below_drew1 | refine below_set ?_ GE113.out) | exact HB.out)) hb)
              clear HO_4
              clear HO_114008
              clear HO122
              clear BK113
              clear HB
              have HO_4 := n0_
              have HO_114008 := n1_
              have HO122 := n2_
              have HO133 := n3_
              have BK113 := n4_
              have HB := n5_
              clear n0_ n1_ n2_ n3_ n4_ n5_
              (try clear hb)
              (try clear hb2)
              (try clear hk)
              (try clear hi)
              (try clear ho0)
              obtain ⟨Ao36, co36, eo36⟩ := Kd.R_slice HO133.out
              (first | subst eo36 | (injection eo36 with f1_ f2_ f3_; have f4_ := f1_.symm; have f5_ := f3_.symm; clear f1_ f2_ f3_; subst f4_; subst f5_))
              refine hK.out _ _ ⟨(blk_cell BK113.out 0).trans rfl, (blk_cell BK113.out 1).trans rfl, (blk_cell BK113.out 2).trans rfl, (blk_cell BK113.out 3).trans rfl, (blk_cell BK113.out 4).trans rfl, (blk_cell BK113.out 5).trans rfl, (blk_cell BK113.out 6).trans rfl, (blk_cell BK113.out 7).trans rfl, (blk_cell BK113.out 8).trans rfl, (blk_cell BK113.out 9).trans rfl, ((HB.out.cell (World.block_lt_of_cell? w _ hw119_0)).trans hw119_0)⟩ (fun hHeld => ?_)
              clear hK K
              refine norm_ (a' := ?_) ?_ ?_
              rotate_left
              ·show Act.put _ (some 30) _ = _
               simp only [Act.put, List.setIfInBounds_toArray, List.set_cons_zero, List.set_cons_succ, i64_w, i32_w]
               rfl
              refine last_ (i := 8) (N := none) #[true, true, true, true, true, true, true, true, true] rfl rfl (one_of HT_.out (by kernel_rfl)) (by decide) (fun K hK => ?_)
              have hs28 : w27.cell? ⟨gb113, 0, none⟩ = some (.int .u32 x114000_1) := (blk_cell BK113.out 0).trans rfl
              have hfs28 := blk_frozen BK113.out 0
              have hs29 : w27.cell? ⟨gb113, 1, none⟩ = some (.int .u32 x114001_1) := (blk_cell BK113.out 1).trans rfl
              have hfs29 := blk_frozen BK113.out 1
              have hs30 : w27.cell? ⟨gb113, 2, none⟩ = some (.int .u32 x114002_1) := (blk_cell BK113.out 2).trans rfl
              have hfs30 := blk_frozen BK113.out 2
              have hs31 : w27.cell? ⟨gb113, 3, none⟩ = some (.int .u32 x114003_1) := (blk_cell BK113.out 3).trans rfl
              have hfs31 := blk_frozen BK113.out 3
              have hs32 : w27.cell? ⟨gb113, 4, none⟩ = some (.int .u32 x114004_1) := (blk_cell BK113.out 4).trans rfl
              have hfs32 := blk_frozen BK113.out 4
              have hs33 : w27.cell? ⟨gb113, 5, none⟩ = some (.int .u32 x114005_1) := (blk_cell BK113.out 5).trans rfl
              have hfs33 := blk_frozen BK113.out 5
              have hs34 : w27.cell? ⟨gb113, 6, none⟩ = some (.int .u32 x114006_1) := (blk_cell BK113.out 6).trans rfl
              have hfs34 := blk_frozen BK113.out 6
              have hs35 : w27.cell? ⟨gb113, 7, none⟩ = some (.int .u32 x114007_1) := (blk_cell BK113.out 7).trans rfl
              have hfs35 := blk_frozen BK113.out 7
              have hs37 : w27.cell? ⟨gb113, 8, none⟩ = some (.slice Ao25 x114008_1.length co25) := (blk_cell BK113.out 8).trans rfl
              have hfs37 := blk_frozen BK113.out 8
              have hs38 : w27.cell? ⟨gb113, 9, none⟩ = some (.int .i64 x114009_1) := (blk_cell BK113.out 9).trans rfl
              have hfs38 := blk_frozen BK113.out 9
              refine skip_ (w1 := ?_) (by rfl) rfl ?_ ?_
              rotate_left
              ·go_simp
               rfl
              refine hK.out _ _ ?_
              clear hK K
              refine done_ (done_of HT_.out (by kernel_rfl)) ?_
              have p135 : 0 ≤ (x5_1 : Int) := of_decide_eq_true (by first | (with_reducible assumption) | assumption)
              have q135 : x5_1 < (l0.length : Int) := of_decide_eq_true (by first | (with_reducible assumption) | assumption)
              obtain ⟨ad135, A135_0, c135_0, e135, hx135_0, hl135_0, hi135_0⟩ := at_L1 HR0.out x5_1 p135 q135
              obtain rfl : ad115 = ad135 := (by injection e135)
              have hn135_0 : ad115.block ≠ gb113 := Nat.ne_of_lt (Nat.lt_of_lt_of_le (by have := World.block_lt_of_cell? _ _ hx135_0; first | rwa [add_block] at this | exact this) GW113.out)
              have hn135_1 : ad115.block ≠ gb113 := Nat.ne_of_lt (Nat.lt_of_lt_of_le (by have := World.block_lt_of_cell? _ _ hx135_0; first | rwa [add_block] at this | exact this) GW113.out)
              have hn135_2 : ad115.block ≠ gb113 := Nat.ne_of_lt (Nat.lt_of_lt_of_le (by have := World.block_lt_of_cell? _ _ hx135_0; first | rwa [add_block] at this | exact this) GW113.out)
              have hn135_3 : ad115.block ≠ gb113 := Nat.ne_of_lt (Nat.lt_of_lt_of_le (by have := World.block_lt_of_cell? _ _ hx135_0; first | rwa [add_block] at this | exact this) GW113.out)
              have hn135_4 : ad115.block ≠ gb113 := Nat.ne_of_lt (Nat.lt_of_lt_of_le (by have := World.block_lt_of_cell? _ _ hx135_0; first | rwa [add_block] at this | exact this) GW113.out)
              have hn135_5 : ad115.block ≠ gb113 := Nat.ne_of_lt (Nat.lt_of_lt_of_le (by have := World.block_lt_of_cell? _ _ hx135_0; first | rwa [add_block] at this | exact this) GW113.out)
              have hn135_6 : ad115.block ≠ gb113 := Nat.ne_of_lt (Nat.lt_of_lt_of_le (by have := World.block_lt_of_cell? _ _ hx135_0; first | rwa [add_block] at this | exact this) GW113.out)
              have hn135_7 : ad115.block ≠ gb113 := Nat.ne_of_lt (Nat.lt_of_lt_of_le (by have := World.block_lt_of_cell? _ _ hx135_0; first | rwa [add_block] at this | exact this) GW113.out)
              have hn135_8 : ad115.block ≠ gb113 := Nat.ne_of_lt (Nat.lt_of_lt_of_le (by have := World.block_lt_of_cell? _ _ hx135_0; first | rwa [add_block] at this | exact this) GW113.out)
              have hn135_9 : ad115.block ≠ gb113 := Nat.ne_of_lt (Nat.lt_of_lt_of_le (by have := World.block_lt_of_cell? _ _ hx135_0; first | rwa [add_block] at this | exact this) GW113.out)
              replace hx135_0 := (HB.out.cell (World.block_lt_of_cell? w _ hx135_0)).trans hx135_0
              have HR135_0 := Aside0.mk hi135_0
              have HC135_0 := Aside0.mk hl135_0
              clear hi135_0 hl135_0
              replace hx135_0 := (cell_far (p := ⟨gb113, 0, none⟩) (by first | (rw [add_block]; exact hn135_0) | (show (Addr.add _ _).block ≠ _; rw [add_block]; exact hn135_0) | exact hn135_0) (.int .u32 t123)).trans hx135_0
              replace hx135_0 := (cell_far (p := ⟨gb113, 1, none⟩) (by first | (rw [add_block]; exact hn135_1) | (show (Addr.add _ _).block ≠ _; rw [add_block]; exact hn135_1) | exact hn135_1) (.int .u32 t124)).trans hx135_0
              replace hx135_0 := (cell_far (p := ⟨gb113, 2, none⟩) (by first | (rw [add_block]; exact hn135_2) | (show (Addr.add _ _).block ≠ _; rw [add_block]; exact hn135_2) | exact hn135_2) (.int .u32 t125)).trans hx135_0
              replace hx135_0 := (cell_far (p := ⟨gb113, 3, none⟩) (by first | (rw [add_block]; exact hn135_3) | (show (Addr.add _ _).block ≠ _; rw [add_block]; exact hn135_3) | exact hn135_3) (.int .u32 t126)).trans hx135_0
              replace hx135_0 := (cell_far (p := ⟨gb113, 4, none⟩) (by first | (rw [add_block]; exact hn135_4) | (show (Addr.add _ _).block ≠ _; rw [add_block]; exact hn135_4) | exact hn135_4) (.int .u32 t127)).trans hx135_0
              replace hx135_0 := (cell_far (p := ⟨gb113, 5, none⟩) (by first | (rw [add_block]; exact hn135_5) | (show (Addr.add _ _).block ≠ _; rw [add_block]; exact hn135_5) | exact hn135_5) (.int .u32 t128)).trans hx135_0
              replace hx135_0 := (cell_far (p := ⟨gb113, 6, none⟩) (by first | (rw [add_block]; exact hn135_6) | (show (Addr.add _ _).block ≠ _; rw [add_block]; exact hn135_6) | exact hn135_6) (.int .u32 t129)).trans hx135_0
              replace hx135_0 := (cell_far (p := ⟨gb113, 7, none⟩) (by first | (rw [add_block]; exact hn135_7) | (show (Addr.add _ _).block ≠ _; rw [add_block]; exact hn135_7) | exact hn135_7) (.int .u32 t130)).trans hx135_0
              replace hx135_0 := (cell_far (p := ⟨gb113, 8, none⟩) (by first | (rw [add_block]; exact hn135_8) | (show (Addr.add _ _).block ≠ _; rw [add_block]; exact hn135_8) | exact hn135_8) (.slice Ao36 t131.length co36)).trans hx135_0
              replace hx135_0 := (cell_far (p := ⟨gb113, 9, none⟩) (by first | (rw [add_block]; exact hn135_9) | (show (Addr.add _ _).block ≠ _; rw [add_block]; exact hn135_9) | exact hn135_9) (.int .i64 t134)).trans hx135_0
              clear hn135_0
              clear hn135_1
              clear hn135_2
              clear hn135_3
              clear hn135_4
              clear hn135_5
              clear hn135_6
              clear hn135_7
              clear hn135_8
              clear hn135_9
              replace p135 := eq_true p135
              replace q135 := eq_true q135
              try go_wp2_with (first | ((with_reducible refine gate_builtin (b := .append) (xs := #[.tmp 31, .tmp 35]) rfl ?_); (try (refine gate_guard (by rfl) ?_; dsimp only)); at_builtin; refine Kd.R_append_rows (Kd.int .u8) (w0 := w) w.heap.size rfl (.tmp 31) (.tmp 35) 22 5 (.int .u8 0) 1 rfl Tryd.underlying22 info5 rfl (by decide) (by omega) u4 x4_1 (rd_L1 l0 x5_1) _ _ _ (fun k_ => some k_ ≠ (.slice Ao25 x114008_1.length co25 : Value).ownBlock ∧ some k_ ≠ (.slice Ao26 y120.length co26 : Value).ownBlock ∧ some k_ ≠ (.slice Ao36 t131.length co36 : Value).ownBlock) (fun _ => False) rfl rfl ?aO ?aR (fun _ _ h => h) (fun _ h => h.elim) ?aF ?aB ?aS ?aL ?_; (case aR => exact Kd.C_below HR135_0.out (by repeat (first | (with_reducible first | exact HB.out | apply below_alloc | apply pw_below_drewN | apply below_drew1 | refine below_set ?_ GE113.out) | exact HB.out))); (case aB => exact (by repeat (first | (with_reducible first | exact HB.out | apply below_alloc | apply pw_below_drewN | apply below_drew1 | refine below_set ?_ GE113.out) | exact HB.out))); (case aF => exact (fun k_ hk => ⟨Kd.fresh' (Kd.R_lt (by (with_reducible repeat (first | apply Kd.R_alloc | apply Kd.R_drewN | apply Kd.R_drew)); exact (Kd.R_mono (Kd.R_far (p := ⟨gb113, 9, none⟩) (Kd.R_far (p := ⟨gb113, 8, none⟩) (Kd.R_far (p := ⟨gb113, 7, none⟩) (Kd.R_far (p := ⟨gb113, 6, none⟩) (Kd.R_far (p := ⟨gb113, 5, none⟩) (Kd.R_far (p := ⟨gb113, 4, none⟩) (Kd.R_far (p := ⟨gb113, 3, none⟩) (Kd.R_far (p := ⟨gb113, 2, none⟩) (Kd.R_far (p := ⟨gb113, 1, none⟩) (Kd.R_far (p := ⟨gb113, 0, none⟩) (Kd.R_types HO_114008.out BK113.out (by decide)) (fun _ hk => hk.2) (.int .u32 t123)) (fun _ hk => hk.2) (.int .u32 t124)) (fun _ hk => hk.2) (.int .u32 t125)) (fun _ hk => hk.2) (.int .u32 t126)) (fun _ hk => hk.2) (.int .u32 t127)) (fun _ hk => hk.2) (.int .u32 t128)) (fun _ hk => hk.2) (.int .u32 t129)) (fun _ hk => hk.2) (.int .u32 t130)) (fun _ hk => hk.2) (.slice Ao36 t131.length co36)) (fun _ hk => hk.2) (.int .i64 t134)) (fun _ h_ => h_.1)))) k_ hk, Kd.fresh' (Kd.R_lt (by (with_reducible repeat (first | apply Kd.R_alloc | apply Kd.R_drewN | apply Kd.R_drew)); exact (Kd.R_mono (Kd.R_far (p := ⟨gb113, 9, none⟩) (Kd.R_far (p := ⟨gb113, 8, none⟩) (Kd.R_far (p := ⟨gb113, 7, none⟩) (Kd.R_far (p := ⟨gb113, 6, none⟩) (Kd.R_far (p := ⟨gb113, 5, none⟩) (Kd.R_far (p := ⟨gb113, 4, none⟩) (Kd.R_far (p := ⟨gb113, 3, none⟩) (Kd.R_far (p := ⟨gb113, 2, none⟩) (Kd.R_far (p := ⟨gb113, 1, none⟩) (Kd.R_far (p := ⟨gb113, 0, none⟩) (Kd.R_types HO122.out BK113.out (by decide)) (fun _ hk => hk.2) (.int .u32 t123)) (fun _ hk => hk.2) (.int .u32 t124)) (fun _ hk => hk.2) (.int .u32 t125)) (fun _ hk => hk.2) (.int .u32 t126)) (fun _ hk => hk.2) (.int .u32 t127)) (fun _ hk => hk.2) (.int .u32 t128)) (fun _ hk => hk.2) (.int .u32 t129)) (fun _ hk => hk.2) (.int .u32 t130)) (fun _ hk => hk.2) (.slice Ao36 t131.length co36)) (fun _ hk => hk.2) (.int .i64 t134)) (fun _ h_ => h_.1)))) k_ hk, Kd.fresh' (Kd.R_lt (by (with_reducible repeat (first | apply Kd.R_alloc | apply Kd.R_drewN | apply Kd.R_drew)); exact (Kd.R_mono (Kd.R_far (p := ⟨gb113, 9, none⟩) (Kd.R_far (p := ⟨gb113, 8, none⟩) (Kd.R_far (p := ⟨gb113, 7, none⟩) (Kd.R_far (p := ⟨gb113, 6, none⟩) (Kd.R_far (p := ⟨gb113, 5, none⟩) (Kd.R_far (p := ⟨gb113, 4, none⟩) (Kd.R_far (p := ⟨gb113, 3, none⟩) (Kd.R_far (p := ⟨gb113, 2, none⟩) (Kd.R_far (p := ⟨gb113, 1, none⟩) (Kd.R_far (p := ⟨gb113, 0, none⟩) (Kd.R_types HO133.out BK113.out (by decide)) (fun _ hk => hk.2) (.int .u32 t123)) (fun _ hk => hk.2) (.int .u32 t124)) (fun _ hk => hk.2) (.int .u32 t125)) (fun _ hk => hk.2) (.int .u32 t126)) (fun _ hk => hk.2) (.int .u32 t127)) (fun _ hk => hk.2) (.int .u32 t128)) (fun _ hk => hk.2) (.int .u32 t129)) (fun _ hk => hk.2) (.int .u32 t130)) (fun _ hk => hk.2) (.slice Ao36 t131.length co36)) (fun _ hk => hk.2) (.int .i64 t134)) (fun _ h_ => h_.1)))) k_ hk⟩)); (case aO => exact (by (with_reducible repeat (first | apply Kd.R_alloc | apply Kd.R_drewN | apply Kd.R_drew)); exact Kd.R_mono (Kd.R_far (p := ⟨gb113, 9, none⟩) (Kd.R_far (p := ⟨gb113, 8, none⟩) (Kd.R_far (p := ⟨gb113, 7, none⟩) (Kd.R_far (p := ⟨gb113, 6, none⟩) (Kd.R_far (p := ⟨gb113, 5, none⟩) (Kd.R_far (p := ⟨gb113, 4, none⟩) (Kd.R_far (p := ⟨gb113, 3, none⟩) (Kd.R_far (p := ⟨gb113, 2, none⟩) (Kd.R_far (p := ⟨gb113, 1, none⟩) (Kd.R_far (p := ⟨gb113, 0, none⟩) (Kd.R_types HO_4.out BK113.out (by decide)) (fun _ hk => hk.2) (.int .u32 t123)) (fun _ hk => hk.2) (.int .u32 t124)) (fun _ hk => hk.2) (.int .u32 t125)) (fun _ hk => hk.2) (.int .u32 t126)) (fun _ hk => hk.2) (.int .u32 t127)) (fun _ hk => hk.2) (.int .u32 t128)) (fun _ hk => hk.2) (.int .u32 t129)) (fun _ hk => hk.2) (.int .u32 t130)) (fun _ hk => hk.2) (.slice Ao36 t131.length co36)) (fun _ hk => hk.2) (.int .i64 t134)) (fun _ hk => ⟨hk.1.1.1, ⟨hk.1.1.2, hk.1.2⟩⟩))); (case aS => exact (below_size (by repeat (first | (with_reducible first | exact HB.out | apply below_alloc | apply pw_below_drewN | apply below_drew1 | refine below_set ?_ GE113.out) | exact HB.out)))); (case aL => have := LMc15.out; omega); intro v137 w39 ho hb hg hat; rw [← Ny136.out] at ho; have n0_ := Aside0.mk (Kd.R_after (ok := (fun k_ => some k_ ≠ (.slice Ao26 y120.length co26 : Value).ownBlock ∧ some k_ ≠ (.slice Ao36 t131.length co36 : Value).ownBlock)) (by (with_reducible repeat (first | apply Kd.R_alloc | apply Kd.R_drewN | apply Kd.R_drew)); exact Kd.R_mono (Kd.R_far (p := ⟨gb113, 9, none⟩) (Kd.R_far (p := ⟨gb113, 8, none⟩) (Kd.R_far (p := ⟨gb113, 7, none⟩) (Kd.R_far (p := ⟨gb113, 6, none⟩) (Kd.R_far (p := ⟨gb113, 5, none⟩) (Kd.R_far (p := ⟨gb113, 4, none⟩) (Kd.R_far (p := ⟨gb113, 3, none⟩) (Kd.R_far (p := ⟨gb113, 2, none⟩) (Kd.R_far (p := ⟨gb113, 1, none⟩) (Kd.R_far (p := ⟨gb113, 0, none⟩) (Kd.R_types HO_114008.out BK113.out (by decide)) (fun _ hk => hk.2) (.int .u32 t123)) (fun _ hk => hk.2) (.int .u32 t124)) (fun _ hk => hk.2) (.int .u32 t125)) (fun _ hk => hk.2) (.int .u32 t126)) (fun _ hk => hk.2) (.int .u32 t127)) (fun _ hk => hk.2) (.int .u32 t128)) (fun _ hk => hk.2) (.int .u32 t129)) (fun _ hk => hk.2) (.int .u32 t130)) (fun _ hk => hk.2) (.slice Ao36 t131.length co36)) (fun _ hk => hk.2) (.int .i64 t134)) (fun _ hk => ⟨⟨hk.1.1.2, hk.1.2⟩, hk.1.1.1⟩)) hg hat); have n1_ := Aside0.mk (blk_grown (g := gb113) (o := .cells #[.int .u32 t123, .int .u32 t124, .int .u32 t125, .int .u32 t126, .int .u32 t127, .int .u32 t128, .int .u32 t129, .int .u32 t130, .slice Ao36 t131.length co36, .int .i64 t134] 41 (0, 0)) (by (with_reducible repeat (first | refine blk_drewN ?_ _ | refine blk_drew ?_ | refine blk_alloc ?_ _)); refine blk_put (cs := #[.int .u32 t123, .int .u32 t124, .int .u32 t125, .int .u32 t126, .int .u32 t127, .int .u32 t128, .int .u32 t129, .int .u32 t130, .slice Ao36 t131.length co36, .int .i64 x114009_1]) ?_ 9 _ rfl; (with_reducible repeat (first | refine blk_drewN ?_ _ | refine blk_drew ?_ | refine blk_alloc ?_ _)); refine blk_put (cs := #[.int .u32 t123, .int .u32 t124, .int .u32 t125, .int .u32 t126, .int .u32 t127, .int .u32 t128, .int .u32 t129, .int .u32 t130, .slice Ao25 x114008_1.length co25, .int .i64 x114009_1]) ?_ 8 _ rfl; (with_reducible repeat (first | refine blk_drewN ?_ _ | refine blk_drew ?_ | refine blk_alloc ?_ _)); refine blk_put (cs := #[.int .u32 t123, .int .u32 t124, .int .u32 t125, .int .u32 t126, .int .u32 t127, .int .u32 t128, .int .u32 t129, .int .u32 x114007_1, .slice Ao25 x114008_1.length co25, .int .i64 x114009_1]) ?_ 7 _ rfl; (with_reducible repeat (first | refine blk_drewN ?_ _ | refine blk_drew ?_ | refine blk_alloc ?_ _)); refine blk_put (cs := #[.int .u32 t123, .int .u32 t124, .int .u32 t125, .int .u32 t126, .int .u32 t127, .int .u32 t128, .int .u32 x114006_1, .int .u32 x114007_1, .slice Ao25 x114008_1.length co25, .int .i64 x114009_1]) ?_ 6 _ rfl; (with_reducible repeat (first | refine blk_drewN ?_ _ | refine blk_drew ?_ | refine blk_alloc ?_ _)); refine blk_put (cs := #[.int .u32 t123, .int .u32 t124, .int .u32 t125, .int .u32 t126, .int .u32 t127, .int .u32 x114005_1, .int .u32 x114006_1, .int .u32 x114007_1, .slice Ao25 x114008_1.length co25, .int .i64 x114009_1]) ?_ 5 _ rfl; (with_reducible repeat (first | refine blk_drewN ?_ _ | refine blk_drew ?_ | refine blk_alloc ?_ _)); refine blk_put (cs := #[.int .u32 t123, .int .u32 t124, .int .u32 t125, .int .u32 t126, .int .u32 x114004_1, .int .u32 x114005_1, .int .u32 x114006_1, .int .u32 x114007_1, .slice Ao25 x114008_1.length co25, .int .i64 x114009_1]) ?_ 4 _ rfl; (with_reducible repeat (first | refine blk_drewN ?_ _ | refine blk_drew ?_ | refine blk_alloc ?_ _)); refine blk_put (cs := #[.int .u32 t123, .int .u32 t124, .int .u32 t125, .int .u32 x114003_1, .int .u32 x114004_1, .int .u32 x114005_1, .int .u32 x114006_1, .int .u32 x114007_1, .slice Ao25 x114008_1.length co25, .int .i64 x114009_1]) ?_ 3 _ rfl; (with_reducible repeat (first | refine blk_drewN ?_ _ | refine blk_drew ?_ | refine blk_alloc ?_ _)); refine blk_put (cs := #[.int .u32 t123, .int .u32 t124, .int .u32 x114002_1, .int .u32 x114003_1, .int .u32 x114004_1, .int .u32 x114005_1, .int .u32 x114006_1, .int .u32 x114007_1, .slice Ao25 x114008_1.length co25, .int .i64 x114009_1]) ?_ 2 _ rfl; (with_reducible repeat (first | refine blk_drewN ?_ _ | refine blk_drew ?_ | refine blk_alloc ?_ _)); refine blk_put (cs := #[.int .u32 t123, .int .u32 x114001_1, .int .u32 x114002_1, .int .u32 x114003_1, .int .u32 x114004_1, .int .u32 x114005_1, .int .u32 x114006_1, .int .u32 x114007_1, .slice Ao25 x114008_1.length co25, .int .i64 x114009_1]) ?_ 1 _ rfl; (with_reducible repeat (first | refine blk_drewN ?_ _ | refine blk_drew ?_ | refine blk_alloc ?_ _)); refine blk_put (cs := #[.int .u32 x114000_1, .int .u32 x114001_1, .int .u32 x114002_1, .int .u32 x114003_1, .int .u32 x114004_1, .int .u32 x114005_1, .int .u32 x114006_1, .int .u32 x114007_1, .slice Ao25 x114008_1.length co25, .int .i64 x114009_1]) ?_ 0 _ rfl; (with_reducible repeat (first | refine blk_drewN ?_ _ | refine blk_drew ?_ | refine blk_alloc ?_ _)); exact BK113.out) hg (Kd.R_ne HO_4.out BK113.out (by decide))); have n2_ := Aside0.mk (Kd.R_after (ok := (fun k_ => some k_ ≠ (.slice Ao25 x114008_1.length co25 : Value).ownBlock ∧ some k_ ≠ (.slice Ao36 t131.length co36 : Value).ownBlock)) (by (with_reducible repeat (first | apply Kd.R_alloc | apply Kd.R_drewN | apply Kd.R_drew)); exact Kd.R_mono (Kd.R_far (p := ⟨gb113, 9, none⟩) (Kd.R_far (p := ⟨gb113, 8, none⟩) (Kd.R_far (p := ⟨gb113, 7, none⟩) (Kd.R_far (p := ⟨gb113, 6, none⟩) (Kd.R_far (p := ⟨gb113, 5, none⟩) (Kd.R_far (p := ⟨gb113, 4, none⟩) (Kd.R_far (p := ⟨gb113, 3, none⟩) (Kd.R_far (p := ⟨gb113, 2, none⟩) (Kd.R_far (p := ⟨gb113, 1, none⟩) (Kd.R_far (p := ⟨gb113, 0, none⟩) (Kd.R_types HO122.out BK113.out (by decide)) (fun _ hk => hk.2) (.int .u32 t123)) (fun _ hk => hk.2) (.int .u32 t124)) (fun _ hk => hk.2) (.int .u32 t125)) (fun _ hk => hk.2) (.int .u32 t126)) (fun _ hk => hk.2) (.int .u32 t127)) (fun _ hk => hk.2) (.int .u32 t128)) (fun _ hk => hk.2) (.int .u32 t129)) (fun _ hk => hk.2) (.int .u32 t130)) (fun _ hk => hk.2) (.slice Ao36 t131.length co36)) (fun _ hk => hk.2) (.int .i64 t134)) (fun _ hk => ⟨⟨hk.1.1.2, hk.1.2⟩, hk.1.1.1⟩)) hg hat); have n3_ := Aside0.mk (Kd.R_after (ok := (fun k_ => some k_ ≠ (.slice Ao25 x114008_1.length co25 : Value).ownBlock ∧ some k_ ≠ (.slice Ao26 y120.length co26 : Value).ownBlock)) (by (with_reducible repeat (first | apply Kd.R_alloc | apply Kd.R_drewN | apply Kd.R_drew)); exact Kd.R_mono (Kd.R_far (p := ⟨gb113, 9, none⟩) (Kd.R_far (p := ⟨gb113, 8, none⟩) (Kd.R_far (p := ⟨gb113, 7, none⟩) (Kd.R_far (p := ⟨gb113, 6, none⟩) (Kd.R_far (p := ⟨gb113, 5, none⟩) (Kd.R_far (p := ⟨gb113, 4, none⟩) (Kd.R_far (p := ⟨gb113, 3, none⟩) (Kd.R_far (p := ⟨gb113, 2, none⟩) (Kd.R_far (p := ⟨gb113, 1, none⟩) (Kd.R_far (p := ⟨gb113, 0, none⟩) (Kd.R_types HO133.out BK113.out (by decide)) (fun _ hk => hk.2) (.int .u32 t123)) (fun _ hk => hk.2) (.int .u32 t124)) (fun _ hk => hk.2) (.int .u32 t125)) (fun _ hk => hk.2) (.int .u32 t126)) (fun _ hk => hk.2) (.int .u32 t127)) (fun _ hk => hk.2) (.int .u32 t128)) (fun _ hk => hk.2) (.int .u32 t129)) (fun _ hk => hk.2) (.int .u32 t130)) (fun _ hk => hk.2) (.slice Ao36 t131.length co36)) (fun _ hk => hk.2) (.int .i64 t134)) (fun _ hk => ⟨⟨hk.1.1.2, hk.1.2⟩, hk.1.1.1.2⟩)) hg hat); have n4_ := Aside0.mk (hb); have n5_ := Aside0.mk (ho); clear HO_114008; clear BK113; clear HO122; clear HO133; clear HB; clear HO_4; have HO_114008 := n0_; have BK113 := n1_; have HO122 := n2_; have HO133 := n3_; have HB := n4_; have HO138 := n5_; clear n0_ n1_ n2_ n3_ n4_ n5_; clear ho hb hg hat; have hcz40_0 : w39.cell? ⟨gb113, 0, none⟩ = some (.int .u32 t123) := (blk_cell BK113.out 0).trans rfl; have hcz40_1 : w39.cell? ⟨gb113, 1, none⟩ = some (.int .u32 t124) := (blk_cell BK113.out 1).trans rfl; have hcz40_2 : w39.cell? ⟨gb113, 2, none⟩ = some (.int .u32 t125) := (blk_cell BK113.out 2).trans rfl; have hcz40_3 : w39.cell? ⟨gb113, 3, none⟩ = some (.int .u32 t126) := (blk_cell BK113.out 3).trans rfl; have hcz40_4 : w39.cell? ⟨gb113, 4, none⟩ = some (.int .u32 t127) := (blk_cell BK113.out 4).trans rfl; have hcz40_5 : w39.cell? ⟨gb113, 5, none⟩ = some (.int .u32 t128) := (blk_cell BK113.out 5).trans rfl; have hcz40_6 : w39.cell? ⟨gb113, 6, none⟩ = some (.int .u32 t129) := (blk_cell BK113.out 6).trans rfl; have hcz40_7 : w39.cell? ⟨gb113, 7, none⟩ = some (.int .u32 t130) := (blk_cell BK113.out 7).trans rfl; have hcz40_8 : w39.cell? ⟨gb113, 8, none⟩ = some (.slice Ao36 t131.length co36) := (blk_cell BK113.out 8).trans rfl; have hcz40_9 : w39.cell? ⟨gb113, 9, none⟩ = some (.int .i64 t134) := (blk_cell BK113.out 9).trans rfl; have hfz40_0 := blk_frozen BK113.out 0; have hfz40_1 := blk_frozen BK113.out 1; have hfz40_2 := blk_frozen BK113.out 2; have hfz40_3 := blk_frozen BK113.out 3; have hfz40_4 := blk_frozen BK113.out 4; have hfz40_5 := blk_frozen BK113.out 5; have hfz40_6 := blk_frozen BK113.out 6; have hfz40_7 := blk_frozen BK113.out 7; have hfz40_8 := blk_frozen BK113.out 8; have hfz40_9 := blk_frozen BK113.out 9; obtain ⟨Ao41, co41, eo41⟩ := Kd.R_slice HO138.out; subst eo41) | (go_at_call 31; (with_reducible refine (sha_End.calls t123 t124 t125 t126 t127 t128 t129 t130 _ _ t131 t134 t139 _ ?side3 ?side1 ?side2 A18.out).mono ?_); (case side1 => repeat (first | exact (Kd.R_reads' HO133.out).2.2 | (with_reducible refine Kd.C_alloc ?_ _) | (with_reducible refine Kd.C_drewN ?_ _) | (with_reducible refine Kd.C_drew ?_))); (case side2 => exact (Kd.R_reads' HO133.out).2.1); (case side3 => exact gw_step hG_ (by repeat (first | (with_reducible first | exact HB.out | apply below_alloc | apply pw_below_drewN | apply below_drew1 | refine below_set ?_ GE113.out) | exact HB.out))); rintro e w42 ⟨rfl, hb⟩; have n0_ := Aside0.mk (Kd.R_below (by (with_reducible repeat (first | apply Kd.R_alloc | apply Kd.R_drewN | apply Kd.R_drew)); exact HO_114008.out) hb); have n1_ := Aside0.mk (Kd.R_below (by (with_reducible repeat (first | apply Kd.R_alloc | apply Kd.R_drewN | apply Kd.R_drew)); exact HO122.out) hb); have n2_ := Aside0.mk (Kd.R_below (by (with_reducible repeat (first | apply Kd.R_alloc | apply Kd.R_drewN | apply Kd.R_drew)); exact HO133.out) hb); have n3_ := Aside0.mk (Kd.R_below (by (with_reducible repeat (first | apply Kd.R_alloc | apply Kd.R_drewN | apply Kd.R_drew)); exact HO138.out) hb); have n4_ := Aside0.mk (blk_below (g := gb113) (o := .cells #[.int .u32 t123, .int .u32 t124, .int .u32 t125, .int .u32 t126, .int .u32 t127, .int .u32 t128, .int .u32 t129, .int .u32 t130, .slice Ao36 t131.length co36, .int .i64 t134] 41 (0, 0)) (by (with_reducible repeat (first | refine blk_drewN ?_ _ | refine blk_drew ?_ | refine blk_alloc ?_ _)); exact BK113.out) hb); have n5_ := Aside0.mk (below_step (by repeat (first | (with_reducible first | exact HB.out | apply below_alloc | apply pw_below_drewN | apply below_drew1 | refine below_set ?_ GE113.out) | exact HB.out)) hb); clear HO_114008; clear HO122; clear HO133; clear HO138; clear BK113; clear HB; have HO_114008 := n0_; have HO122 := n1_; have HO133 := n2_; have HO138 := n3_; have BK113 := n4_; have HB := n5_; clear n0_ n1_ n2_ n3_ n4_ n5_; (try clear hb); (try clear hb2); (try clear hk); (try clear hi)) | (go_at_call 28; (with_reducible refine (rubrickref01_Sum.calls kj6 _ _ y136 t140 _ ?side1 ?side2 A19.out).mono ?_); (case side1 => repeat (first | exact (Kd.R_reads' HO138.out).2.2 | (with_reducible refine Kd.C_alloc ?_ _) | (with_reducible refine Kd.C_drewN ?_ _) | (with_reducible refine Kd.C_drew ?_))); (case side2 => exact (Kd.R_reads' HO138.out).2.1); rintro e w43 ⟨rfl, hb⟩; have n0_ := Aside0.mk (Kd.R_below (by (with_reducible repeat (first | apply Kd.R_alloc | apply Kd.R_drewN | apply Kd.R_drew)); exact HO_114008.out) hb); have n1_ := Aside0.mk (Kd.R_below (by (with_reducible repeat (first | apply Kd.R_alloc | apply Kd.R_drewN | apply Kd.R_drew)); exact HO122.out) hb); have n2_ := Aside0.mk (Kd.R_below (by (with_reducible repeat (first | apply Kd.R_alloc | apply Kd.R_drewN | apply Kd.R_drew)); exact HO133.out) hb); have n3_ := Aside0.mk (Kd.R_below (by (with_reducible repeat (first | apply Kd.R_alloc | apply Kd.R_drewN | apply Kd.R_drew)); exact HO138.out) hb); have n4_ := Aside0.mk (blk_below (g := gb113) (o := .cells #[.int .u32 t123, .int .u32 t124, .int .u32 t125, .int .u32 t126, .int .u32 t127, .int .u32 t128, .int .u32 t129, .int .u32 t130, .slice Ao36 t131.length co36, .int .i64 t134] 41 (0, 0)) (by (with_reducible repeat (first | refine blk_drewN ?_ _ | refine blk_drew ?_ | refine blk_alloc ?_ _)); exact BK113.out) hb); have n5_ := Aside0.mk (below_step (by repeat (first | (with_reducible first | exact HB.out | apply below_alloc | apply pw_below_drewN | apply below_drew1 | refine below_set ?_ GE113.out) | exact HB.out)) hb); clear HO_114008; clear HO122; clear HO133; clear HO138; clear BK113; clear HB; have HO_114008 := n0_; have HO122 := n1_; have HO133 := n2_; have HO138 := n3_; have BK113 := n4_; have HB := n5_; clear n0_ n1_ n2_ n3_ n4_ n5_; (try clear hb); (try clear hb2); (try clear hk); (try clear hi)))
              go_roundg kj6
              case measure => have := HK1.out; have := HJ6.out; omega
              case rel => exact ⟨(y136), (wrap64 (x5_1 + 1)), (t123), (t124), (t125), (t126), (t127), (t128), (t129), (t130), (t131), (t134), (.slice Ao36 t131.length co36), (by first | rfl | (simp; done) | (simp [*]; done)), H', ⟨by have := HK1.out; have := HJ6.out; omega⟩, ⟨by (with_reducible repeat (first | apply Kd.R_alloc | apply Kd.R_drewN | apply Kd.R_drew)); exact Kd.R_mono HO138.out (fun _ hk => hk.2.2)⟩, ⟨by (with_reducible repeat (first | apply Kd.R_alloc | apply Kd.R_drewN | apply Kd.R_drew)); exact Kd.R_mono HO133.out (fun _ hk => hk.2)⟩, ⟨by (with_reducible repeat (first | refine blk_drewN ?_ _ | refine blk_drew ?_ | refine blk_alloc ?_ _)); exact BK113.out⟩, ⟨by repeat (first | (with_reducible first | exact HB.out | apply below_alloc | apply pw_below_drewN | apply below_drew1 | refine below_set ?_ GE113.out) | exact HB.out)⟩⟩
             ·rw [if_neg c20] at H
              have c20b0 : (t139.toList == t140.toList) = false := beq_eq_false_iff_ne.mpr c20
              have c20b1 : (t139.toList != t140.toList) = true := bne_iff_ne.mpr c20
              cases H
            ·rw [if_neg c17] at H
             have c17b0 : ((t131.length : Int) == ((y136.length : Int) % 64)) = false := beq_eq_false_iff_ne.mpr c17
             have c17b1 : ((t131.length : Int) != ((y136.length : Int) % 64)) = true := bne_iff_ne.mpr c17
             cases H
           ·rw [if_neg c16] at H
            have c16b0 : (t134 == (y136.length : Int)) = false := beq_eq_false_iff_ne.mpr c16
            have c16b1 : (t134 != (y136.length : Int)) = true := bne_iff_ne.mpr c16
            cases H
          ·rw [if_neg c15] at H
           exact absurd H (by simp)
         ·rw [if_neg c13] at H
          exact absurd H (by simp)
       ·rw [if_neg c11] at H
        exact absurd H (by simp)
      ·rw [if_neg c10] at H
       exact absurd H (by simp)
     ·replace c9 := Bool.eq_false_iff.mpr c9
      subst c9
      have H1 : ((rubricklaw01_knows.f kj6).bind fun t114 => (some t114)) = some true := by rw [if_neg (show ¬ (false = true) by decide)] at H; exact H
      clear H
      have H := H1
      clear H1
      replace H := Option.bind_eq_some_iff.mp H
      obtain ⟨t114, A440, H⟩ := H
      replace H : (some t114) = some true := H
      have A44 := Aside0.mk A440
      clear A440
      have HT2_ := Aside0.mk (Option.some.inj H)
      clear H
      go_wp2_with (first | ((with_reducible refine gate_callee (f := 26) rfl ?_); refine goesL_ (some 58) rfl rfl Tryd.func26 (by kernel_rfl) rfl #[] rfl (by (try simp only [List.map_toArray, List.map_cons, List.map_nil]); first | done | rfl | (simp only [List.length_drop, List.length_take]; rfl)) ?_; (with_reducible refine (rubricklaw01_knows.calls kj6  t114 _ ?side1 A44.out).mono ?_); (case side1 => exact gw_step hG_ (by repeat (first | (with_reducible first | exact HB.out | apply below_alloc | apply pw_below_drewN | apply below_drew1 | refine below_set ?_ GE113.out) | exact HB.out))); rintro e w45 ⟨rfl, hb⟩; refine ⟨_, rfl, ?_⟩; have n0_ := Aside0.mk (Kd.R_below (by (with_reducible repeat (first | apply Kd.R_alloc | apply Kd.R_drewN | apply Kd.R_drew)); exact HO_4.out) hb); have n1_ := Aside0.mk (Kd.R_below (by (with_reducible repeat (first | apply Kd.R_alloc | apply Kd.R_drewN | apply Kd.R_drew)); exact HO_114008.out) hb); have n2_ := Aside0.mk (blk_below (g := gb113) (o := .cells #[.int .u32 x114000_1, .int .u32 x114001_1, .int .u32 x114002_1, .int .u32 x114003_1, .int .u32 x114004_1, .int .u32 x114005_1, .int .u32 x114006_1, .int .u32 x114007_1, u114008, .int .i64 x114009_1] 41 (0, 0)) (by (with_reducible repeat (first | refine blk_drewN ?_ _ | refine blk_drew ?_ | refine blk_alloc ?_ _)); exact BK113.out) hb); have n3_ := Aside0.mk (below_step (by repeat (first | (with_reducible first | exact HB.out | apply below_alloc | apply pw_below_drewN | apply below_drew1 | refine below_set ?_ GE113.out) | exact HB.out)) hb); clear HO_4; clear HO_114008; clear BK113; clear HB; have HO_4 := n0_; have HO_114008 := n1_; have BK113 := n2_; have HB := n3_; clear n0_ n1_ n2_ n3_; (try clear hb); (try clear hb2); (try clear hk); (try clear hi)))
      go_ret
      exact ⟨by first | rfl | (simp [errW_none, errW_some] <;> rfl) | exact congrArg (fun b_ : Bool => Ending.returned (Value.bool b_)) HT2_.out | (simp [*, errW_none, errW_some] <;> rfl), by repeat (first | (with_reducible first | exact HB.out | apply below_alloc | apply pw_below_drewN | apply below_drew1 | refine below_set ?_ GE113.out) | exact HB.out)⟩
end Go.Proofs.YtjcfimnijpcjmaaDoor.PShaParts

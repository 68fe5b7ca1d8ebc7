import Derived.Test.YtpmefpdafkbphaaDoorZrHZ
import Derived.Test.YtpmefpdafkbphaaDoorProg
import Derived.Below
import Derived.Deep.Draws
import Derived.Deep.AppendLies
import Derived.Maps.AppendAt
import Derived.OwnWalk
import Derived.Laws.BytesArg
import Derived.Laws.MakeOwn
import Derived.Laws.OwnMore
import Derived.Deep.OwnRows
import Derived.Tactics
import Derived.Lib.ConvBytes
import Derived.Laws.Slices
import Derived.WalkKit
import Derived.KernelRfl
import Derived.RowKit3
import Derived.Deep.LoopGhost
import Derived.Deep.QuietTactic
import Derived.BigQuiet
import Derived.WideLaws
import Derived.Deep.DeepCutAuto
import Derived.Deep.CutBlock
import Derived.Deep.RegionHeld3
import Derived.Laws.Rows
import Derived.Lib.AppendStr
import Derived.ArgAppend
import Derived.Laws.IdiomCopy
import Derived.OrdersHeld
import Derived.Laws.BitsLemmas
import Derived.RowKit
import Derived.WalkMore
import Derived.Test.YtpmefpdafkbphaaDoorZrHShaD
import Derived.Test.YtpmefpdafkbphaaDoorZrPS
import Derived.Test.YtpmefpdafkbphaaDoorZrPR
import Derived.Test.YtpmefpdafkbphaaDoorZrPT
import Derived.Test.YtpmefpdafkbphaaDoorZrPB
import Derived.Test.YtpmefpdafkbphaaDoorZrHNode
import Derived.Test.YtpmefpdafkbphaaDoorZrPC
import Derived.Test.YtpmefpdafkbphaaDoorZrHBytes8
import Derived.Test.YtpmefpdafkbphaaDoorZrPQ
import Derived.Test.YtpmefpdafkbphaaDoorZrWWords
import Derived.Test.YtpmefpdafkbphaaDoorZrWLast
import Derived.Test.YtpmefpdafkbphaaDoorZrWTab
import Derived.Test.YtpmefpdafkbphaaDoorZrWApart
import Derived.Test.YtpmefpdafkbphaaDoorZrWFoot
import Derived.Test.YtpmefpdafkbphaaDoorZrWKept
import Derived.Test.YtpmefpdafkbphaaDoorZrWShare
import Derived.Test.YtpmefpdafkbphaaDoorZrWN
import Derived.Laws.StructEq
import Derived.Test.YtpmefpdafkbphaaDoorZrWRepsOne
import Derived.Test.YtpmefpdafkbphaaDoorZrWInv
import Derived.Test.YtpmefpdafkbphaaDoorZrWGuard
import Derived.Test.YtpmefpdafkbphaaDoorZrWNEv
import Derived.Test.YtpmefpdafkbphaaDoorZrWMore
-- PRINTED by print.py (a twelfth state) out of the translation. Not trusted: Lean checks it.
namespace Go.Proofs.YtpmefpdafkbphaaDoor.PL
open Go.Proofs.YtpmefpdafkbphaaDoor.HZ Go.RowKit Go.Proofs.YtpmefpdafkbphaaDoor.HSha Go.Proofs.YtpmefpdafkbphaaDoor.PS Go.Proofs.YtpmefpdafkbphaaDoor.PR Go.Proofs.YtpmefpdafkbphaaDoor.PT Go.Proofs.YtpmefpdafkbphaaDoor.PB Go.Proofs.YtpmefpdafkbphaaDoor.HNode Go.Proofs.YtpmefpdafkbphaaDoor.PC Go.Proofs.YtpmefpdafkbphaaDoor.HBytes8 Go.Proofs.YtpmefpdafkbphaaDoor.PQ Go.Proofs.YtpmefpdafkbphaaDoorW.PrintWords Go.Proofs.YtpmefpdafkbphaaDoorW.PrintLast Go.Proofs.YtpmefpdafkbphaaDoorW.PrintMore
attribute [local go_sem] max2_int min2_int max_two min_two max_three min_three max_four min_four   -- for this text's walks alone
set_option linter.unusedVariables false
set_option linter.unusedSimpArgs false
def errW : Option Int → Value
 | none => .nilIface
 | some c => .iface 0 (.int .i64 c)
theorem errW_none : errW none = .nilIface := rfl
theorem errW_some (c : Int) : errW (some c) = .iface 0 (.int .i64 c) := rfl
theorem info5 : (Tryd.prog.info? 5).map (fun i => (i.zero, i.size, i.bytes)) = some (some (.int .u8 0), 1, 1) := by kernel_rfl
theorem info41 : (Tryd.prog.info? 41).map (fun i => (i.zero, i.size, i.bytes)) = some (some (.slice none 0 0), 1, 24) := by kernel_rfl
-- the values' own types
end Go.Proofs.YtpmefpdafkbphaaDoor.PL
namespace Go.Proofs.YtpmefpdafkbphaaDoor.PL
open Go.Proofs.YtpmefpdafkbphaaDoor.HZ Go.RowKit Go.Proofs.YtpmefpdafkbphaaDoor.HSha Go.Proofs.YtpmefpdafkbphaaDoor.PS Go.Proofs.YtpmefpdafkbphaaDoor.PR Go.Proofs.YtpmefpdafkbphaaDoor.PT Go.Proofs.YtpmefpdafkbphaaDoor.PB Go.Proofs.YtpmefpdafkbphaaDoor.HNode Go.Proofs.YtpmefpdafkbphaaDoor.PC Go.Proofs.YtpmefpdafkbphaaDoor.HBytes8 Go.Proofs.YtpmefpdafkbphaaDoor.PQ Go.Proofs.YtpmefpdafkbphaaDoorW.PrintWords Go.Proofs.YtpmefpdafkbphaaDoorW.PrintLast Go.Proofs.YtpmefpdafkbphaaDoorW.PrintMore
attribute [local go_sem] max2_int min2_int max_two min_two max_three min_three max_four min_four   -- for this text's walks alone
set_option linter.unusedVariables false
set_option linter.unusedSimpArgs false
/-! ### rubricklaw08_knows: function 26 -/
def rubricklaw08_knows.f (k : Nat)  : Option (Bool) := (some (([(([1] : List Int)), (([2] : List Int))] : List (List Int)) : List (List Int))).bind fun y107 => ((tree_Leaves.f k y107).bind fun t110 => ((tree_Path.f k t110 0).bind fun bt113 => ((clash_Leaf.f k y107 0 (([1] : List Int)) bt113.1).bind fun bt120 => ((clash_Two.f k y107 y107).bind fun bt128 => (if bt113.2 = 0 then (if (bt113.1.length : Int) = 1 then (if bt120.2.2 = true then (some false) else (some (!bt128.2.2))) else (some false)) else (some false))))))
theorem rubricklaw08_knows.mono : ∀ k, LeO (rubricklaw08_knows.f k ) (rubricklaw08_knows.f (k + 1) ) := by
 intro  k
 unfold rubricklaw08_knows.f
 repeat' first
   | (with_reducible exact clash_Leaf.mono _ _ _ _ _)
   | (with_reducible exact clash_Two.mono _ _ _)
   | (with_reducible exact tree_Leaves.mono _ _)
   | (with_reducible exact tree_Path.mono _ _ _)
   | (with_reducible exact LeO.refl _)
   | (with_reducible exact LeO.none _)
   | (with_reducible refine LeO.ite ?_ ?_)
   | (with_reducible refine LeO.bind ?_ (fun _ => ?_))
set_option maxRecDepth 1000000 in
theorem rubricklaw08_knows.sure : rubricklaw08_knows.f 80 = some true := by decide +kernel
theorem rubricklaw08_knows.only (k : Nat) (r : Bool) (h : rubricklaw08_knows.f k = some r) : r = true := by
 have u : ∀ d, rubricklaw08_knows.f (80 + d) = some true := fun d => by
  induction d with
  | zero => exact rubricklaw08_knows.sure
  | succ d ih => exact rubricklaw08_knows.mono _ _ ih
 have v : ∀ d, rubricklaw08_knows.f (k + d) = some r := fun d => by
  induction d with
  | zero => exact h
  | succ d ih => exact rubricklaw08_knows.mono _ _ ih
 have e := v 80
 rw [Nat.add_comm, u k] at e
 exact (Option.some.inj e).symm
set_option maxHeartbeats 8000000 in
set_option maxRecDepth 100000 in
theorem rubricklaw08_knows.calls (k : Nat)  (r : Bool) (w : World) (hG_ : Aside0 (GW w)) (h : rubricklaw08_knows.f k  = some r) :
  Calls Tryd.prog 26 #[] w fun e w' => e = .returned (.bool r) ∧ Below w.heap.size w w' := by
 have hu44 := Tryd.underlying44
 have HB := Aside0.mk (Below.refl w.heap.size w)
 obtain rfl := rubricklaw08_knows.only k r h
 have H : ((some (([(([1] : List Int)), (([2] : List Int))] : List (List Int)) : List (List Int))).bind fun y107 => ((tree_Leaves.f k y107).bind fun t110 => ((tree_Path.f k t110 0).bind fun bt113 => ((clash_Leaf.f k y107 0 (([1] : List Int)) bt113.1).bind fun bt120 => ((clash_Two.f k y107 y107).bind fun bt128 => (if bt113.2 = 0 then (if (bt113.1.length : Int) = 1 then (if bt120.2.2 = true then (some false) else (some (!bt128.2.2))) else (some false)) else (some false))))))) = some true := h
 clear h
 obtain ⟨y101, hy101⟩ : ∃ y_ : List Int, y_ = (([1] : List Int)) := ⟨_, rfl⟩
 replace H : ((some (([y101, (([2] : List Int))] : List (List Int)) : List (List Int))).bind fun y107 => ((tree_Leaves.f k y107).bind fun t110 => ((tree_Path.f k t110 0).bind fun bt113 => ((clash_Leaf.f k y107 0 (([1] : List Int)) bt113.1).bind fun bt120 => ((clash_Two.f k y107 y107).bind fun bt128 => (if bt113.2 = 0 then (if (bt113.1.length : Int) = 1 then (if bt120.2.2 = true then (some false) else (some (!bt128.2.2))) else (some false)) else (some false))))))) = some true := by first | (rw [hy101]; with_reducible exact H) | (have H2_ := (Option.bind_some _ _).symm.trans H; rw [hy101]; with_reducible exact H2_) | (have H2_ := (Option.bind_some _ _).symm.trans H; with_reducible exact H2_) | with_reducible exact H | (rw [hy101]; exact H) | exact H
 have Ny101 := Aside0.mk hy101
 clear hy101
 obtain ⟨y104, hy104⟩ : ∃ y_ : List Int, y_ = (([2] : List Int)) := ⟨_, rfl⟩
 replace H : ((some (([y101, y104] : List (List Int)) : List (List Int))).bind fun y107 => ((tree_Leaves.f k y107).bind fun t110 => ((tree_Path.f k t110 0).bind fun bt113 => ((clash_Leaf.f k y107 0 (([1] : List Int)) bt113.1).bind fun bt120 => ((clash_Two.f k y107 y107).bind fun bt128 => (if bt113.2 = 0 then (if (bt113.1.length : Int) = 1 then (if bt120.2.2 = true then (some false) else (some (!bt128.2.2))) else (some false)) else (some false))))))) = some true := by first | (rw [hy104]; with_reducible exact H) | (have H2_ := (Option.bind_some _ _).symm.trans H; rw [hy104]; with_reducible exact H2_) | (have H2_ := (Option.bind_some _ _).symm.trans H; with_reducible exact H2_) | with_reducible exact H | (rw [hy104]; exact H) | exact H
 have Ny104 := Aside0.mk hy104
 clear hy104
 obtain ⟨y107, hy107⟩ : ∃ y_ : List (List Int), y_ = (([y101, y104] : List (List Int))) := ⟨_, rfl⟩
 replace H : ((tree_Leaves.f k y107).bind fun t110 => ((tree_Path.f k t110 0).bind fun bt113 => ((clash_Leaf.f k y107 0 (([1] : List Int)) bt113.1).bind fun bt120 => ((clash_Two.f k y107 y107).bind fun bt128 => (if bt113.2 = 0 then (if (bt113.1.length : Int) = 1 then (if bt120.2.2 = true then (some false) else (some (!bt128.2.2))) else (some false)) else (some false)))))) = some true := by first | (rw [hy107]; with_reducible exact H) | (have H2_ := (Option.bind_some _ _).symm.trans H; rw [hy107]; with_reducible exact H2_) | (have H2_ := (Option.bind_some _ _).symm.trans H; with_reducible exact H2_) | with_reducible exact H | (rw [hy107]; exact H) | exact H
 have Ny107 := Aside0.mk hy107
 clear hy107
 replace H := Option.bind_eq_some_iff.mp H
 obtain ⟨t110, A10, H⟩ := H
 replace H : ((tree_Path.f k t110 0).bind fun bt113 => ((clash_Leaf.f k y107 0 (([1] : List Int)) bt113.1).bind fun bt120 => ((clash_Two.f k y107 y107).bind fun bt128 => (if bt113.2 = 0 then (if (bt113.1.length : Int) = 1 then (if bt120.2.2 = true then (some false) else (some (!bt128.2.2))) else (some false)) else (some false))))) = some true := H
 have A1 := Aside0.mk A10
 clear A10
 replace H := Option.bind_eq_some_iff.mp H
 obtain ⟨⟨t113, t116⟩, A20, H⟩ := H
 replace H : ((clash_Leaf.f k y107 0 (([1] : List Int)) t113).bind fun bt120 => ((clash_Two.f k y107 y107).bind fun bt128 => (if t116 = 0 then (if (t113.length : Int) = 1 then (if bt120.2.2 = true then (some false) else (some (!bt128.2.2))) else (some false)) else (some false)))) = some true := H
 have A2 := Aside0.mk A20
 clear A20
 obtain ⟨y117, hy117⟩ : ∃ y_ : List Int, y_ = (([1] : List Int)) := ⟨_, rfl⟩
 replace H : ((clash_Leaf.f k y107 0 y117 t113).bind fun bt120 => ((clash_Two.f k y107 y107).bind fun bt128 => (if t116 = 0 then (if (t113.length : Int) = 1 then (if bt120.2.2 = true then (some false) else (some (!bt128.2.2))) else (some false)) else (some false)))) = some true := by first | (rw [hy117]; with_reducible exact H) | (have H2_ := (Option.bind_some _ _).symm.trans H; rw [hy117]; with_reducible exact H2_) | (have H2_ := (Option.bind_some _ _).symm.trans H; with_reducible exact H2_) | with_reducible exact H | (rw [hy117]; exact H) | exact H
 have Ny117 := Aside0.mk hy117
 clear hy117
 replace H := Option.bind_eq_some_iff.mp H
 obtain ⟨⟨t120, t123, t126⟩, A30, H⟩ := H
 replace H : ((clash_Two.f k y107 y107).bind fun bt128 => (if t116 = 0 then (if (t113.length : Int) = 1 then (if t126 = true then (some false) else (some (!bt128.2.2))) else (some false)) else (some false))) = some true := H
 have A3 := Aside0.mk A30
 clear A30
 replace H := Option.bind_eq_some_iff.mp H
 obtain ⟨⟨t128, t131, t134⟩, A40, H⟩ := H
 replace H : (if t116 = 0 then (if (t113.length : Int) = 1 then (if t126 = true then (some false) else (some (!t134))) else (some false)) else (some false)) = some true := H
 have A4 := Aside0.mk A40
 clear A40
 by_cases c5 : t116 = 0
 ·rw [if_pos c5] at H
  have c5b0 : (t116 == 0) = true := beq_iff_eq.mpr c5
  have c5b1 : (t116 != 0) = false := bne_eq_false_iff_eq.mpr c5
  clear c5
  by_cases c6 : (t113.length : Int) = 1
  ·rw [if_pos c6] at H
   have c6b0 : ((t113.length : Int) == 1) = true := beq_iff_eq.mpr c6
   have c6b1 : ((t113.length : Int) != 1) = false := bne_eq_false_iff_eq.mpr c6
   clear c6
   by_cases c7 : t126 = true
   ·subst c7
    have H1 : (some false) = some true := by rw [if_pos rfl] at H; exact H
    clear H
    have H := H1
    clear H1
    cases H
   ·replace c7 := Bool.eq_false_iff.mpr c7
    subst c7
    have H1 : (some (!t134)) = some true := by rw [if_neg (show ¬ (false = true) by decide)] at H; exact H
    clear H
    have H := H1
    clear H1
    have HT2_ := Aside0.mk (Option.some.inj H)
    clear H
    go_enter Tryd.func26, Tryd.ntmps26
    go_wp2_with (first | ((with_reducible refine gate_dst (N := 8) rfl ?_); (try (refine gate_guard (by rfl) ?_; dsimp only)); refine Kd.R_lit (Kd.int .u8) _ 5 ?hg (N := 8) ?hd (xs := ([1] : List Int)) (inner := [.int .u8 1]) (ok := fun _ => True) (okp := fun _ => True) ?hr ?hp (fun _ hk => hk) trivial (Below.refl _ _) (Nat.le_refl _) (by simp) ?_; (case hd => rfl); (case hg => rfl); (case hr => first | (go_simp; done) | (go_simp; rfl)); (case hp => exact (Reps.one (show Kd.M (Kd.int .u8) _ _ _ 1 [.int .u8 1] from rfl) (Reps.none _ _))); intro v102 w8 ho9 hb hg_ hnew_; clear hg_ hnew_; (first | rw [← Ny101.out] at ho9 | (simp only [Int.reduceToNat] at ho9; rw [← Ny101.out] at ho9)); have n0_ := zL ho9 HB; have n1_ := zS HB hb; clear HB; have HO103 := n0_; have HB := n1_; clear n0_ n1_; clear hb ho9) | ((with_reducible refine gate_dst (N := 9) rfl ?_); (try (refine gate_guard (by rfl) ?_; dsimp only)); refine Kd.R_lit (Kd.int .u8) _ 5 ?hg (N := 9) ?hd (xs := ([2] : List Int)) (inner := [.int .u8 2]) (ok := fun _ => True) (okp := fun _ => True) ?hr ?hp (fun _ hk => hk) trivial (Below.refl _ _) (Nat.le_refl _) (by simp) ?_; (case hd => rfl); (case hg => rfl); (case hr => first | (go_simp; done) | (go_simp; rfl)); (case hp => exact (Reps.one (show Kd.M (Kd.int .u8) _ _ _ 2 [.int .u8 2] from rfl) (Reps.none _ _))); intro v105 w10 ho11 hb hg_ hnew_; clear hg_ hnew_; (first | rw [← Ny104.out] at ho11 | (simp only [Int.reduceToNat] at ho11; rw [← Ny104.out] at ho11)); have n0_ := Aside0.mk (Kd.R_elder' (zr HO103.out) (Kd.R_base ho11) hb); have n1_ := Aside0.mk (Kd.R_lower (Kd.R_new' ho11 (Kd.R_lt (zr HO103.out))) (below_size (zb HB.out))); have n2_ := zS HB hb; clear HO103; clear HB; have HO103 := n0_; have HO106 := n1_; have HB := n2_; clear n0_ n1_ n2_; clear hb ho11; obtain ⟨Ao12, co12, eo12⟩ := Kd.R_slice HO103.out; subst eo12; obtain ⟨Ao13, co13, eo13⟩ := Kd.R_slice HO106.out; subst eo13) | ((with_reducible refine gate_dst (N := 10) rfl ?_); (try (refine gate_guard (by rfl) ?_; dsimp only)); refine Kd.N_lit (Kd.slice 5 (Kd.int .u8)) _ 41 ?hg (N' := 10) ?hd (xs := ([y101, y104] : List (List Int))) (inner := [.slice Ao12 y101.length co12, .slice Ao13 y104.length co13]) (ok := (fun _ => True)) (okp := (fun _ => True)) ?hr ?hp (fun _ hk => hk) ((show ∀ k_, w10.heap.size ≤ k_ → (fun _ => True) k_ from fun k_ hk => trivial) _ (Nat.le_refl _)) (Below.refl _ _) (Nat.le_refl _) (by simp) ?_; (case hd => rfl); (case hg => rfl); (case hr => first | (go_simp; done) | (go_simp; rfl)); (case hp => exact (Reps.one (show Kd.FK (Kd.slice 5 (Kd.int .u8)) _ _ y101 [.slice Ao12 y101.length co12] from (Kd.FK_slice_mk (Kd.R_reads' (Kd.R_mono (ok' := (fun _ => True)) (HO103.out) (fun k_ hk => trivial))).2.1 (Kd.R_F (Kd.R_mono (ok' := (fun _ => True)) (HO103.out) (fun k_ hk => trivial))))) (Reps.one (show Kd.FK (Kd.slice 5 (Kd.int .u8)) _ _ y104 [.slice Ao13 y104.length co13] from (Kd.FK_slice_mk (Kd.R_reads' (Kd.R_mono (ok' := (fun _ => True)) (HO106.out) (fun k_ hk => trivial))).2.1 (Kd.R_F (Kd.R_mono (ok' := (fun _ => True)) (HO106.out) (fun k_ hk => trivial))))) (Reps.none _ _)))); intro v108 w14 ho15 hb hg_ hnew_; clear hg_ hnew_; (first | rw [← Ny107.out] at ho15 | (simp only [Int.reduceToNat] at ho15; rw [← Ny107.out] at ho15)); have n0_ := Aside0.mk (Kd.N_lower ho15 (below_size (zb HB.out))); have n1_ := zS HB hb; clear HB; clear HO103; clear HO106; have HO109 := n0_; have HB := n1_; clear n0_ n1_; clear hb ho15; obtain ⟨Ao16, co16, eo16⟩ := Kd.N_slice HO109.out; subst eo16) | ((with_reducible refine gate_callee (f := 46) rfl ?_); refine goesL_ (some 13) rfl rfl Tryd.func46 (by kernel_rfl) rfl #[.slice Ao16 y107.length co16] rfl zm ?_; (with_reducible refine (tree_Leaves.calls k _ _ y107 t110 _ ?side3 ?side1 ?side2 A1.out).mono ?_); (case side1 => exact zc (Kd.N_reads' HO109.out).2.2); (case side2 => exact (Kd.N_reads' HO109.out).2.1); (case side3 => exact gw_step hG_ (zb HB.out)); rintro e w17 ⟨v111, rfl, ho0, hb⟩; refine ⟨_, rfl, ?_⟩; have n0_ := Aside0.mk (Kd.N_elder' (by (with_reducible repeat (first | apply Kd.N_alloc | apply Kd.N_drewN | apply Kd.N_drew)); exact HO109.out) (Kd.R_base ho0) hb); have n1_ := zL ho0 HB; have n2_ := zS HB hb; clear HO109; clear HB; have HO109 := n0_; have HO112 := n1_; have HB := n2_; clear n0_ n1_ n2_; (try clear hb); (try clear hb2); (try clear hk); (try clear hi); (try clear ho0); obtain ⟨Ao18, co18, eo18⟩ := Kd.R_slice HO112.out; subst eo18) | ((with_reducible refine gate_callee (f := 36) rfl ?_); refine goesL_ (some 14) rfl rfl Tryd.func36 (by kernel_rfl) rfl #[.slice Ao18 t110.length co18, .int .i64 0] rfl zm ?_; (with_reducible refine (tree_Path.calls k (fun k_ => some k_ = (.slice Ao18 t110.length co18 : Value).ownBlock) _ _ t110 0 t113 t116 _ ?side2 ?side1 A2.out).mono ?_); (case side1 => exact Kd.R_V (Kd.R_tight rfl (Kd.R_apart' (HO112.out) (Kd.N_typed HO109.out) (by decide)))); (case side2 => exact gw_step hG_ (zb HB.out)); rintro e w19 ⟨v114, rfl, ho0, hb⟩; refine ⟨_, rfl, ?_⟩; have n0_ := Aside0.mk (Kd.N_elder' (by (with_reducible repeat (first | apply Kd.N_alloc | apply Kd.N_drewN | apply Kd.N_drew)); exact HO109.out) (Kd.R_base ho0) hb); have n1_ := Aside0.mk (Kd.R_elder' (zr HO112.out) (Kd.R_base ho0) hb); have n2_ := Aside0.mk (Kd.R_lower (Kd.R_new' (Kd.R_mono (ok' := fun k_ => True) ho0 (fun _ hk_ => trivial)) (Kd.R_lt (zr HO112.out))) (below_size (zb HB.out))); have n3_ := zS HB hb; clear HO109; clear HO112; clear HB; have HO109 := n0_; have HO112 := n1_; have HO115 := n2_; have HB := n3_; clear n0_ n1_ n2_ n3_; (try clear hb); (try clear hb2); (try clear hk); (try clear hi); (try clear ho0)) | ((with_reducible refine gate_dst (N := 19) rfl ?_); (try (refine gate_guard (by rfl) ?_; dsimp only)); refine Kd.R_lit (Kd.int .u8) _ 5 ?hg (N := 19) ?hd (xs := ([1] : List Int)) (inner := [.int .u8 1]) (ok := fun _ => True) (okp := fun _ => True) ?hr ?hp (fun _ hk => hk) trivial (Below.refl _ _) (Nat.le_refl _) (by simp) ?_; (case hd => rfl); (case hg => rfl); (case hr => first | (go_simp; done) | (go_simp; rfl)); (case hp => exact (Reps.one (show Kd.M (Kd.int .u8) _ _ _ 1 [.int .u8 1] from rfl) (Reps.none _ _))); intro v118 w20 ho21 hb hg_ hnew_; clear hg_ hnew_; (first | rw [← Ny117.out] at ho21 | (simp only [Int.reduceToNat] at ho21; rw [← Ny117.out] at ho21)); have n0_ := Aside0.mk (Kd.N_elder' (by (with_reducible repeat (first | apply Kd.N_alloc | apply Kd.N_drewN | apply Kd.N_drew)); exact HO109.out) (Kd.R_base ho21) hb); have n1_ := zR HO112 hb; have n2_ := zR HO115 hb; have n3_ := zL ho21 HB; have n4_ := zS HB hb; clear HO109; clear HO112; clear HO115; clear HB; have HO109 := n0_; have HO112 := n1_; have HO115 := n2_; have HO119 := n3_; have HB := n4_; clear n0_ n1_ n2_ n3_ n4_; clear hb ho21; obtain ⟨Ao22, co22, eo22⟩ := Kd.R_slice HO119.out; subst eo22; obtain ⟨Ao23, co23, eo23⟩ := Kd.R_slice HO115.out; subst eo23) | ((with_reducible refine gate_callee (f := 27) rfl ?_); refine goesL_ (some 21) rfl rfl Tryd.func27 (by kernel_rfl) rfl #[.slice Ao16 y107.length co16, .int .i64 0, .slice Ao22 y117.length co22, .slice Ao23 t113.length co23] rfl zm ?_; (with_reducible refine (clash_Leaf.calls k _ _ y107 0 _ _ y117 _ _ t113 t120 t123 false _ ?side7 ?side1 ?side2 ?side3 ?side4 ?side5 ?side6 A3.out).mono ?_); (case side1 => exact zc (Kd.N_reads' HO109.out).2.2); (case side2 => exact (Kd.N_reads' HO109.out).2.1); (case side3 => exact zc (Kd.R_reads' HO119.out).2.2); (case side4 => exact (Kd.R_reads' HO119.out).2.1); (case side5 => exact zc (Kd.R_reads' HO115.out).2.2); (case side6 => exact (Kd.R_reads' HO115.out).2.1); (case side7 => exact gw_step hG_ (zb HB.out)); rintro e w24 ⟨v121, v124, rfl, ho0, ho1, hb⟩; refine ⟨_, rfl, ?_⟩; have n0_ := Aside0.mk (Kd.N_mono (Kd.N_told (Kd.N_told (Kd.N_old (by (with_reducible repeat (first | apply Kd.N_alloc | apply Kd.N_drewN | apply Kd.N_drew)); exact HO109.out) hb) (Kd.R_base ho0)) (Kd.R_base ho1)) (fun _ h_ => h_.1)); have n1_ := zR HO112 hb; have n2_ := zR HO115 hb; have n3_ := Aside0.mk (Kd.R_mono (Kd.R_told (Kd.R_told (Kd.R_old (zr HO119.out) hb) (Kd.R_base ho0)) (Kd.R_base ho1)) (fun _ h_ => h_.1)); have n4_ := Aside0.mk (Kd.R_lower (Kd.R_new' ho0 (Kd.R_lt (zr HO119.out))) (below_size (zb HB.out))); have n5_ := Aside0.mk (Kd.R_lower (Kd.R_new' ho1 (Kd.R_lt (zr HO119.out))) (below_size (zb HB.out))); have n6_ := zS HB hb; clear HO109; clear HO112; clear HO115; clear HO119; clear HB; have HO109 := n0_; have HO112 := n1_; have HO115 := n2_; have HO119 := n3_; have HO122 := n4_; have HO125 := n5_; have HB := n6_; clear n0_ n1_ n2_ n3_ n4_ n5_ n6_; (try clear hb); (try clear hb2); (try clear hk); (try clear hi); (try clear ho0); (try clear ho1)) | ((with_reducible refine gate_dst (N := 4) rfl ?_); (try (refine gate_guard (by rfl) ?_; dsimp only)); refine box_event ?hg (N := 4) ?hd (cs := #[.slice none 0 0, .slice none 0 0]) (t := 44) ?hr ?_; (case hd => rfl); (case hg => rfl); (case hr => first | (go_simp; done) | (go_simp; rfl)); intro gb127 hg w25 hbox hb; have n0_ := Aside0.mk (Kd.N_below (Kd.N_elderB (by (with_reducible repeat (first | apply Kd.N_alloc | apply Kd.N_drewN | apply Kd.N_drew)); exact HO109.out) gb127 (Nat.le_of_eq hg.symm)) hb); have n1_ := zR HO112 hb; have n2_ := zR HO115 hb; have n3_ := zR HO119 hb; have n4_ := zR HO122 hb; have n5_ := zR HO125 hb; have n6_ := zS HB hb; have n7_ := Aside0.mk (hbox); have n8_ := Aside0.mk ((by rw [hg]; exact (below_size (zb HB.out)) : w.heap.size ≤ gb127)); have n9_ := Aside0.mk ((by rw [hg]; exact (below_size (zb HB.out)) : w.heap.size ≤ gb127)); clear HO109; clear HO112; clear HO115; clear HO119; clear HO122; clear HO125; clear HB; have HO109 := n0_; have HO112 := n1_; have HO115 := n2_; have HO119 := n3_; have HO122 := n4_; have HO125 := n5_; have HB := n6_; have BK127 := n7_; have GW127 := n8_; have GE127 := n9_; clear n0_ n1_ n2_ n3_ n4_ n5_ n6_ n7_ n8_ n9_; clear hb hbox hg; obtain ⟨Ao26, co26, eo26⟩ := Kd.R_slice HO122.out; subst eo26; have hcz27_0 : w25.cell? ⟨gb127, 0, none⟩ = some (.slice none 0 0) := (blk_cell BK127.out 0).trans rfl; have hcz27_1 : w25.cell? ⟨gb127, 1, none⟩ = some (.slice none 0 0) := (blk_cell BK127.out 1).trans rfl; have hfz27_0 := blk_frozen BK127.out 0; have hfz27_1 := blk_frozen BK127.out 1; obtain ⟨Ao28, co28, eo28⟩ := Kd.R_slice HO125.out; subst eo28) | ((with_reducible refine gate_callee (f := 37) rfl ?_); refine goesL_ (some 27) rfl rfl Tryd.func37 (by kernel_rfl) rfl #[.slice Ao16 y107.length co16, .slice Ao16 y107.length co16] rfl zm ?_; (with_reducible refine (clash_Two.calls k _ _ y107 _ _ y107 t128 t131 t134 _ ?side5 ?side1 ?side2 ?side3 ?side4 A4.out).mono ?_); (case side1 => refine (Kd.N_reads' (e := 41) (base := w.heap.size) (ok := fun k_ => ((((((True ∧ some k_ ≠ (.slice Ao18 t110.length co18 : Value).ownBlock) ∧ some k_ ≠ (.slice Ao23 t113.length co23 : Value).ownBlock) ∧ some k_ ≠ (.slice Ao22 y117.length co22 : Value).ownBlock) ∧ some k_ ≠ (.slice Ao26 t120.length co26 : Value).ownBlock) ∧ some k_ ≠ (.slice Ao28 t123.length co28 : Value).ownBlock) ∧ k_ ≠ gb127)) (n := y107.length) (c := co16) ?_).2.2; exact (by (with_reducible repeat (first | apply Kd.N_alloc | apply Kd.N_drewN | apply Kd.N_drew)); exact (Kd.N_mono (Kd.N_far (p := ⟨gb127, 1, none⟩) (Kd.N_far (p := ⟨gb127, 0, none⟩) (Kd.N_mono HO109.out (fun k_ hk => (⟨hk, hk.2⟩ : _ ∧ k_ ≠ gb127))) (fun _ hk => hk.2) (.slice Ao26 t120.length co26)) (fun _ hk => hk.2) (.slice Ao28 t123.length co28)) (fun _ h_ => h_.1)))); (case side2 => exact (Kd.N_reads' HO109.out).2.1); (case side3 => refine (Kd.N_reads' (e := 41) (base := w.heap.size) (ok := fun k_ => ((((((True ∧ some k_ ≠ (.slice Ao18 t110.length co18 : Value).ownBlock) ∧ some k_ ≠ (.slice Ao23 t113.length co23 : Value).ownBlock) ∧ some k_ ≠ (.slice Ao22 y117.length co22 : Value).ownBlock) ∧ some k_ ≠ (.slice Ao26 t120.length co26 : Value).ownBlock) ∧ some k_ ≠ (.slice Ao28 t123.length co28 : Value).ownBlock) ∧ k_ ≠ gb127)) (n := y107.length) (c := co16) ?_).2.2; exact (by (with_reducible repeat (first | apply Kd.N_alloc | apply Kd.N_drewN | apply Kd.N_drew)); exact (Kd.N_mono (Kd.N_far (p := ⟨gb127, 1, none⟩) (Kd.N_far (p := ⟨gb127, 0, none⟩) (Kd.N_mono HO109.out (fun k_ hk => (⟨hk, hk.2⟩ : _ ∧ k_ ≠ gb127))) (fun _ hk => hk.2) (.slice Ao26 t120.length co26)) (fun _ hk => hk.2) (.slice Ao28 t123.length co28)) (fun _ h_ => h_.1)))); (case side4 => exact (Kd.N_reads' HO109.out).2.1); (case side5 => exact gw_step hG_ (zb1 HB.out GE127.out)); rintro e w29 ⟨v129, v132, rfl, ho0, ho1, hb⟩; refine ⟨_, rfl, ?_⟩; have n0_ := Aside0.mk (Kd.N_mono (Kd.N_told (Kd.N_told (Kd.N_old (by (with_reducible repeat (first | apply Kd.N_alloc | apply Kd.N_drewN | apply Kd.N_drew)); exact (Kd.N_mono (Kd.N_far (p := ⟨gb127, 1, none⟩) (Kd.N_far (p := ⟨gb127, 0, none⟩) (Kd.N_mono HO109.out (fun k_ hk => (⟨hk, hk.2⟩ : _ ∧ k_ ≠ gb127))) (fun _ hk => hk.2) (.slice Ao26 t120.length co26)) (fun _ hk => hk.2) (.slice Ao28 t123.length co28)) (fun _ h_ => h_.1))) hb) (Kd.R_base ho0)) (Kd.R_base ho1)) (fun _ h_ => h_.1)); have n1_ := Aside0.mk (Kd.R_below (by (with_reducible repeat (first | apply Kd.R_alloc | apply Kd.R_drewN | apply Kd.R_drew)); exact (Kd.R_mono (Kd.R_far (p := ⟨gb127, 1, none⟩) (Kd.R_far (p := ⟨gb127, 0, none⟩) (Kd.R_types HO112.out BK127.out (by decide)) (fun _ hk => hk.2) (.slice Ao26 t120.length co26)) (fun _ hk => hk.2) (.slice Ao28 t123.length co28)) (fun _ h_ => h_.1))) hb); have n2_ := Aside0.mk (Kd.R_below (by (with_reducible repeat (first | apply Kd.R_alloc | apply Kd.R_drewN | apply Kd.R_drew)); exact (Kd.R_mono (Kd.R_far (p := ⟨gb127, 1, none⟩) (Kd.R_far (p := ⟨gb127, 0, none⟩) (Kd.R_types HO115.out BK127.out (by decide)) (fun _ hk => hk.2) (.slice Ao26 t120.length co26)) (fun _ hk => hk.2) (.slice Ao28 t123.length co28)) (fun _ h_ => h_.1))) hb); have n3_ := Aside0.mk (Kd.R_mono (Kd.R_told (Kd.R_told (Kd.R_old (by (with_reducible repeat (first | apply Kd.R_alloc | apply Kd.R_drewN | apply Kd.R_drew)); exact (Kd.R_mono (Kd.R_far (p := ⟨gb127, 1, none⟩) (Kd.R_far (p := ⟨gb127, 0, none⟩) (Kd.R_types HO119.out BK127.out (by decide)) (fun _ hk => hk.2) (.slice Ao26 t120.length co26)) (fun _ hk => hk.2) (.slice Ao28 t123.length co28)) (fun _ h_ => h_.1))) hb) (Kd.R_base ho0)) (Kd.R_base ho1)) (fun _ h_ => h_.1)); have n4_ := Aside0.mk (Kd.R_mono (Kd.R_told (Kd.R_told (Kd.R_old (by (with_reducible repeat (first | apply Kd.R_alloc | apply Kd.R_drewN | apply Kd.R_drew)); exact (Kd.R_mono (Kd.R_far (p := ⟨gb127, 1, none⟩) (Kd.R_far (p := ⟨gb127, 0, none⟩) (Kd.R_types HO122.out BK127.out (by decide)) (fun _ hk => hk.2) (.slice Ao26 t120.length co26)) (fun _ hk => hk.2) (.slice Ao28 t123.length co28)) (fun _ h_ => h_.1))) hb) (Kd.R_base ho0)) (Kd.R_base ho1)) (fun _ h_ => h_.1)); have n5_ := Aside0.mk (Kd.R_mono (Kd.R_told (Kd.R_told (Kd.R_old (by (with_reducible repeat (first | apply Kd.R_alloc | apply Kd.R_drewN | apply Kd.R_drew)); exact (Kd.R_mono (Kd.R_far (p := ⟨gb127, 1, none⟩) (Kd.R_far (p := ⟨gb127, 0, none⟩) (Kd.R_types HO125.out BK127.out (by decide)) (fun _ hk => hk.2) (.slice Ao26 t120.length co26)) (fun _ hk => hk.2) (.slice Ao28 t123.length co28)) (fun _ h_ => h_.1))) hb) (Kd.R_base ho0)) (Kd.R_base ho1)) (fun _ h_ => h_.1)); have n6_ := Aside0.mk (Kd.R_lower (Kd.R_new' (Kd.R_new' (Kd.R_new' ho0 (Kd.R_lt (by (with_reducible repeat (first | apply Kd.R_alloc | apply Kd.R_drewN | apply Kd.R_drew)); exact (Kd.R_mono (Kd.R_far (p := ⟨gb127, 1, none⟩) (Kd.R_far (p := ⟨gb127, 0, none⟩) (Kd.R_types HO119.out BK127.out (by decide)) (fun _ hk => hk.2) (.slice Ao26 t120.length co26)) (fun _ hk => hk.2) (.slice Ao28 t123.length co28)) (fun _ h_ => h_.1))))) (Kd.R_lt (by (with_reducible repeat (first | apply Kd.R_alloc | apply Kd.R_drewN | apply Kd.R_drew)); exact (Kd.R_mono (Kd.R_far (p := ⟨gb127, 1, none⟩) (Kd.R_far (p := ⟨gb127, 0, none⟩) (Kd.R_types HO122.out BK127.out (by decide)) (fun _ hk => hk.2) (.slice Ao26 t120.length co26)) (fun _ hk => hk.2) (.slice Ao28 t123.length co28)) (fun _ h_ => h_.1))))) (Kd.R_lt (by (with_reducible repeat (first | apply Kd.R_alloc | apply Kd.R_drewN | apply Kd.R_drew)); exact (Kd.R_mono (Kd.R_far (p := ⟨gb127, 1, none⟩) (Kd.R_far (p := ⟨gb127, 0, none⟩) (Kd.R_types HO125.out BK127.out (by decide)) (fun _ hk => hk.2) (.slice Ao26 t120.length co26)) (fun _ hk => hk.2) (.slice Ao28 t123.length co28)) (fun _ h_ => h_.1))))) (below_size (zb1 HB.out GE127.out))); have n7_ := Aside0.mk (Kd.R_lower (Kd.R_new' (Kd.R_new' (Kd.R_new' ho1 (Kd.R_lt (by (with_reducible repeat (first | apply Kd.R_alloc | apply Kd.R_drewN | apply Kd.R_drew)); exact (Kd.R_mono (Kd.R_far (p := ⟨gb127, 1, none⟩) (Kd.R_far (p := ⟨gb127, 0, none⟩) (Kd.R_types HO119.out BK127.out (by decide)) (fun _ hk => hk.2) (.slice Ao26 t120.length co26)) (fun _ hk => hk.2) (.slice Ao28 t123.length co28)) (fun _ h_ => h_.1))))) (Kd.R_lt (by (with_reducible repeat (first | apply Kd.R_alloc | apply Kd.R_drewN | apply Kd.R_drew)); exact (Kd.R_mono (Kd.R_far (p := ⟨gb127, 1, none⟩) (Kd.R_far (p := ⟨gb127, 0, none⟩) (Kd.R_types HO122.out BK127.out (by decide)) (fun _ hk => hk.2) (.slice Ao26 t120.length co26)) (fun _ hk => hk.2) (.slice Ao28 t123.length co28)) (fun _ h_ => h_.1))))) (Kd.R_lt (by (with_reducible repeat (first | apply Kd.R_alloc | apply Kd.R_drewN | apply Kd.R_drew)); exact (Kd.R_mono (Kd.R_far (p := ⟨gb127, 1, none⟩) (Kd.R_far (p := ⟨gb127, 0, none⟩) (Kd.R_types HO125.out BK127.out (by decide)) (fun _ hk => hk.2) (.slice Ao26 t120.length co26)) (fun _ hk => hk.2) (.slice Ao28 t123.length co28)) (fun _ h_ => h_.1))))) (below_size (zb1 HB.out GE127.out))); have n8_ := Aside0.mk (blk_below (g := gb127) (o := .cells #[.slice Ao26 t120.length co26, .slice Ao28 t123.length co28] 44 (0, 0)) (by (with_reducible repeat (first | refine blk_drewN ?_ _ | refine blk_drew ?_ | refine blk_alloc ?_ _)); refine blk_put (cs := #[.slice Ao26 t120.length co26, .slice none 0 0]) ?_ 1 _ rfl; (with_reducible repeat (first | refine blk_drewN ?_ _ | refine blk_drew ?_ | refine blk_alloc ?_ _)); refine blk_put (cs := #[.slice none 0 0, .slice none 0 0]) ?_ 0 _ rfl; (with_reducible repeat (first | refine blk_drewN ?_ _ | refine blk_drew ?_ | refine blk_alloc ?_ _)); exact BK127.out) hb); have n9_ := zS1 HB GE127 hb; clear HO109; clear HO112; clear HO115; clear HO119; clear HO122; clear HO125; clear BK127; clear HB; have HO109 := n0_; have HO112 := n1_; have HO115 := n2_; have HO119 := n3_; have HO122 := n4_; have HO125 := n5_; have HO130 := n6_; have HO133 := n7_; have BK127 := n8_; have HB := n9_; clear n0_ n1_ n2_ n3_ n4_ n5_ n6_ n7_ n8_ n9_; (try clear hb); (try clear hb2); (try clear hk); (try clear hi); (try clear ho0); (try clear ho1)) | ((with_reducible refine gate_dst (N := 6) rfl ?_); (try (refine gate_guard (by rfl) ?_; dsimp only)); refine box_event ?hg (N := 6) ?hd (cs := #[.slice none 0 0, .slice none 0 0]) (t := 44) ?hr ?_; (case hd => rfl); (case hg => rfl); (case hr => first | (go_simp; done) | (go_simp; rfl)); intro gb135 hg w30 hbox hb; have n0_ := Aside0.mk (Kd.N_below (Kd.N_elderB (by (with_reducible repeat (first | apply Kd.N_alloc | apply Kd.N_drewN | apply Kd.N_drew)); exact HO109.out) gb135 (Nat.le_of_eq hg.symm)) hb); have n1_ := zR HO112 hb; have n2_ := zR HO115 hb; have n3_ := zR HO119 hb; have n4_ := zR HO122 hb; have n5_ := zR HO125 hb; have n6_ := zR HO130 hb; have n7_ := zR HO133 hb; have n8_ := zK BK127 hb; have n9_ := zS1 HB GE127 hb; have n10_ := Aside0.mk (hbox); have n11_ := Aside0.mk ((by rw [hg]; exact (below_size (zb1 HB.out GE127.out)) : w.heap.size ≤ gb135)); have n12_ := Aside0.mk ((by rw [hg]; exact (below_size (zb1 HB.out GE127.out)) : w.heap.size ≤ gb135)); have n13_ := Aside0.mk ((by rw [hg]; exact Nat.ne_of_lt (blk_lt (g := gb127) (o := .cells #[.slice Ao26 t120.length co26, .slice Ao28 t123.length co28] 44 (0, 0)) (zk BK127.out)) : gb127 ≠ gb135)); have n14_ := Aside0.mk ((by rw [hg]; exact Nat.ne_of_gt (blk_lt (g := gb127) (o := .cells #[.slice Ao26 t120.length co26, .slice Ao28 t123.length co28] 44 (0, 0)) (zk BK127.out)) : gb135 ≠ gb127)); clear HO109; clear HO112; clear HO115; clear HO119; clear HO122; clear HO125; clear HO130; clear HO133; clear BK127; clear HB; have HO109 := n0_; have HO112 := n1_; have HO115 := n2_; have HO119 := n3_; have HO122 := n4_; have HO125 := n5_; have HO130 := n6_; have HO133 := n7_; have BK127 := n8_; have HB := n9_; have BK135 := n10_; have GW135 := n11_; have GE135 := n12_; have NB127_135 := n13_; have NB135_127 := n14_; clear n0_ n1_ n2_ n3_ n4_ n5_ n6_ n7_ n8_ n9_ n10_ n11_ n12_ n13_ n14_; clear hb hbox hg; obtain ⟨Ao31, co31, eo31⟩ := Kd.R_slice HO130.out; subst eo31; have hnb32 := NB135_127.out; have hnc32 := NB127_135.out; have hcz33_0 : w30.cell? ⟨gb135, 0, none⟩ = some (.slice none 0 0) := (blk_cell BK135.out 0).trans rfl; have hcz33_1 : w30.cell? ⟨gb135, 1, none⟩ = some (.slice none 0 0) := (blk_cell BK135.out 1).trans rfl; have hfz33_0 := blk_frozen BK135.out 0; have hfz33_1 := blk_frozen BK135.out 1; obtain ⟨Ao34, co34, eo34⟩ := Kd.R_slice HO133.out; subst eo34))
    go_ret
    exact ⟨by first | rfl | (simp [errW_none, errW_some] <;> rfl) | exact congrArg (fun b_ : Bool => Ending.returned (Value.bool b_)) HT2_.out | (simp [*, errW_none, errW_some] <;> rfl), by repeat (first | (with_reducible first | exact HB.out | apply below_alloc | apply pw_below_drewN | apply below_drew1 | refine below_set ?_ GE127.out | refine below_set ?_ GE135.out) | exact HB.out)⟩
  ·rw [if_neg c6] at H
   have c6b0 : ((t113.length : Int) == 1) = false := beq_eq_false_iff_ne.mpr c6
   have c6b1 : ((t113.length : Int) != 1) = true := bne_iff_ne.mpr c6
   cases H
 ·rw [if_neg c5] at H
  have c5b0 : (t116 == 0) = false := beq_eq_false_iff_ne.mpr c5
  have c5b1 : (t116 != 0) = true := bne_iff_ne.mpr c5
  cases H
end Go.Proofs.YtpmefpdafkbphaaDoor.PL

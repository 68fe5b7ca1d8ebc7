import Derived.Test.YtpmefpdafkbphaaDoorProg
import Derived.Below
import Derived.Deep.Draws
import Derived.Deep.AppendLies
import Derived.Maps.AppendAt
import Derived.OwnWalk
import Derived.Laws.BytesArg
import Derived.Laws.MakeOwn
import Derived.Laws.OwnMore
import Derived.Deep.OwnRows
import Derived.Tactics
import Derived.Lib.ConvBytes
import Derived.Laws.Slices
import Derived.WalkKit
import Derived.KernelRfl
import Derived.RowKit3
import Derived.Deep.LoopGhost
import Derived.Deep.QuietTactic
import Derived.BigQuiet
import Derived.WideLaws
import Derived.Deep.DeepCutAuto
import Derived.Deep.CutBlock
import Derived.Deep.RegionHeld3
import Derived.Laws.Rows
import Derived.Lib.AppendStr
import Derived.ArgAppend
import Derived.Laws.IdiomCopy
import Derived.OrdersHeld
import Derived.Laws.BitsLemmas
import Derived.RowKit
import Derived.WalkMore
import Derived.Test.YtpmefpdafkbphaaDoorZaHShaD
import Derived.Test.YtpmefpdafkbphaaDoorZaPS
import Derived.Test.YtpmefpdafkbphaaDoorZaPR
import Derived.Test.YtpmefpdafkbphaaDoorZaPT
import Derived.Test.YtpmefpdafkbphaaDoorZaPB
import Derived.Test.YtpmefpdafkbphaaDoorZaHNode
import Derived.Test.YtpmefpdafkbphaaDoorZaPC
import Derived.Test.YtpmefpdafkbphaaDoorZaPP
import Derived.Test.YtpmefpdafkbphaaDoorZaHProve
import Derived.Test.YtpmefpdafkbphaaDoorZaHCheck
import Derived.Test.YtpmefpdafkbphaaDoorZaPK
import Derived.Test.YtpmefpdafkbphaaDoorZaWWords
import Derived.Test.YtpmefpdafkbphaaDoorZaWLast
import Derived.Test.YtpmefpdafkbphaaDoorZaWTab
import Derived.Test.YtpmefpdafkbphaaDoorZaWApart
import Derived.Test.YtpmefpdafkbphaaDoorZaWFoot
import Derived.Test.YtpmefpdafkbphaaDoorZaWKept
import Derived.Test.YtpmefpdafkbphaaDoorZaWShare
import Derived.Test.YtpmefpdafkbphaaDoorZaWN
import Derived.Laws.StructEq
import Derived.Test.YtpmefpdafkbphaaDoorZaWRepsOne
import Derived.Test.YtpmefpdafkbphaaDoorZaWInv
import Derived.Test.YtpmefpdafkbphaaDoorZaWGuard
import Derived.Test.YtpmefpdafkbphaaDoorZaWNEv
import Derived.Test.YtpmefpdafkbphaaDoorZaWMore
-- PRINTED by print.py (a twelfth state) out of the translation. Not trusted: Lean checks it.
namespace Go.Proofs.YtpmefpdafkbphaaDoor.PConsBack
open Go.RowKit  Go.Proofs.YtpmefpdafkbphaaDoor.HSha Go.Proofs.YtpmefpdafkbphaaDoor.PS Go.Proofs.YtpmefpdafkbphaaDoor.PR Go.Proofs.YtpmefpdafkbphaaDoor.PT Go.Proofs.YtpmefpdafkbphaaDoor.PB Go.Proofs.YtpmefpdafkbphaaDoor.HNode Go.Proofs.YtpmefpdafkbphaaDoor.PC Go.Proofs.YtpmefpdafkbphaaDoor.PP Go.Proofs.YtpmefpdafkbphaaDoor.HProve Go.Proofs.YtpmefpdafkbphaaDoor.HCheck Go.Proofs.YtpmefpdafkbphaaDoor.PK Go.Proofs.YtpmefpdafkbphaaDoorW.PrintWords Go.Proofs.YtpmefpdafkbphaaDoorW.PrintLast Go.Proofs.YtpmefpdafkbphaaDoorW.PrintMore
attribute [local go_sem] max2_int min2_int max_two min_two max_three min_three max_four min_four   -- for this text's walks alone
set_option linter.unusedVariables false
set_option linter.unusedSimpArgs false
def errW : Option Int → Value
 | none => .nilIface
 | some c => .iface 0 (.int .i64 c)
theorem errW_none : errW none = .nilIface := rfl
theorem errW_some (c : Int) : errW (some c) = .iface 0 (.int .i64 c) := rfl
theorem info9 : (Tryd.prog.info? 9).map (fun i => (i.zero, i.size, i.bytes)) = some (some (.string ⟨#[]⟩), 1, 16) := by kernel_rfl
-- the values' own types
def rd_L1 (xs : List (List Int)) (i : Int) : (List Int) := xs.getD i.toNat ([] : List Int)
theorem at_L1 {w : World} {A : Option Addr} {n : Nat} {xs : List (List Int)} (h : Kd.C (Kd.slice 5 (Kd.int .u8)) w A n xs) (i : Int) (h0 : 0 ≤ i) (h1 : i < n) : ∃ ad A0 c0, A = some ad ∧ w.cell? (ad.add i.toNat) = some (.slice A0 (rd_L1 xs i).length c0) ∧ (rd_L1 xs i).length ≤ c0 ∧ (Kd.int .u8).C w A0 (rd_L1 xs i).length (rd_L1 xs i) := by
 obtain ⟨ad, c, e, _, hK, hc0⟩ := Kd.C_get h ([] : List Int) i h0 h1
 have hc : ∀ j u, c[j]? = some u → w.cell? (ad.add (i.toNat * 1 + j)) = some u := hc0
 obtain ⟨A0, c0, rfl, l0, g0⟩ := hK
 exact ⟨ad, A0, c0, e, by have hq := hc 0 _ rfl; rwa [Nat.mul_one, Nat.add_zero] at hq, l0, g0⟩
end Go.Proofs.YtpmefpdafkbphaaDoor.PConsBack
namespace Go.Proofs.YtpmefpdafkbphaaDoor.PConsBack
open Go.RowKit  Go.Proofs.YtpmefpdafkbphaaDoor.HSha Go.Proofs.YtpmefpdafkbphaaDoor.PS Go.Proofs.YtpmefpdafkbphaaDoor.PR Go.Proofs.YtpmefpdafkbphaaDoor.PT Go.Proofs.YtpmefpdafkbphaaDoor.PB Go.Proofs.YtpmefpdafkbphaaDoor.HNode Go.Proofs.YtpmefpdafkbphaaDoor.PC Go.Proofs.YtpmefpdafkbphaaDoor.PP Go.Proofs.YtpmefpdafkbphaaDoor.HProve Go.Proofs.YtpmefpdafkbphaaDoor.HCheck Go.Proofs.YtpmefpdafkbphaaDoor.PK Go.Proofs.YtpmefpdafkbphaaDoorW.PrintWords Go.Proofs.YtpmefpdafkbphaaDoorW.PrintLast Go.Proofs.YtpmefpdafkbphaaDoorW.PrintMore
attribute [local go_sem] max2_int min2_int max_two min_two max_three min_three max_four min_four   -- for this text's walks alone
set_option linter.unusedVariables false
set_option linter.unusedSimpArgs false
/-! ### rubricklaw07_ConsBack: function 5 -/
def rubricklaw07_ConsBack.f (k : Nat) (l0 : List (List Int)) (a1 : Int) : Option (Bool) := (rubricklaw07_digests.f k l0).bind fun t101 => (if (wrap64 ((t101.length : Int) + 1)) = 0 then (none) else ((cons_Prove.f k t101 (Int.tmod (wrap64 (a1)) (wrap64 ((t101.length : Int) + 1)))).bind fun bt104 => (if 0 ≤ (Int.tmod (wrap64 (a1)) (wrap64 ((t101.length : Int) + 1))) then (if (Int.tmod (wrap64 (a1)) (wrap64 ((t101.length : Int) + 1))) ≤ (t101.length : Int) then ((tree_Root.f k (t101.take ((Int.tmod (wrap64 (a1)) (wrap64 ((t101.length : Int) + 1))) : Int).toNat)).bind fun bt112 => ((tree_Root.f k t101).bind fun bt114 => (if bt104.2 = 0 then (if bt112.2 = 0 then (if bt114.2 = 0 then ((cons_Check.f k (Int.tmod (wrap64 (a1)) (wrap64 ((t101.length : Int) + 1))) (t101.length : Int) bt112.1 bt114.1 bt104.1).bind fun t116 => (if t116 = 0 then ((rubricklaw07_knows.f k).bind fun t117 => (some t117)) else (some false))) else (some false)) else (some false)) else (some false)))) else (none)) else (none))))
set_option maxHeartbeats 8000000 in
set_option maxRecDepth 100000 in
theorem rubricklaw07_ConsBack.calls (k : Nat) (A0 : Option Addr) (c0 : Nat) (l0 : List (List Int)) (a1 : Int) (r : Bool) (w : World) (hG_ : Aside0 (GW w)) (hr0 : Kd.C (Kd.slice 5 (Kd.int .u8)) w A0 l0.length l0) (hc0 : l0.length ≤ c0) (h : rubricklaw07_ConsBack.f k l0 a1 = some r) (hT_ : r = true) :
  Calls Tryd.prog 5 #[.slice A0 l0.length c0, .int .u8 a1] w fun e w' => e = .returned (.bool r) ∧ Below w.heap.size w w' := by
 have HR0 := Aside0.mk hr0
 have HC0 := Aside0.mk hc0
 clear hr0 hc0
 have HB := Aside0.mk (Below.refl w.heap.size w)
 subst hT_
 have H : ((rubricklaw07_digests.f k l0).bind fun t101 => (if (wrap64 ((t101.length : Int) + 1)) = 0 then (none) else ((cons_Prove.f k t101 (Int.tmod (wrap64 (a1)) (wrap64 ((t101.length : Int) + 1)))).bind fun bt104 => (if 0 ≤ (Int.tmod (wrap64 (a1)) (wrap64 ((t101.length : Int) + 1))) then (if (Int.tmod (wrap64 (a1)) (wrap64 ((t101.length : Int) + 1))) ≤ (t101.length : Int) then ((tree_Root.f k (t101.take ((Int.tmod (wrap64 (a1)) (wrap64 ((t101.length : Int) + 1))) : Int).toNat)).bind fun bt112 => ((tree_Root.f k t101).bind fun bt114 => (if bt104.2 = 0 then (if bt112.2 = 0 then (if bt114.2 = 0 then ((cons_Check.f k (Int.tmod (wrap64 (a1)) (wrap64 ((t101.length : Int) + 1))) (t101.length : Int) bt112.1 bt114.1 bt104.1).bind fun t116 => (if t116 = 0 then ((rubricklaw07_knows.f k).bind fun t117 => (some t117)) else (some false))) else (some false)) else (some false)) else (some false)))) else (none)) else (none))))) = some true := h
 clear h
 replace H := Option.bind_eq_some_iff.mp H
 obtain ⟨t101, A30, H⟩ := H
 replace H : (if (wrap64 ((t101.length : Int) + 1)) = 0 then (none) else ((cons_Prove.f k t101 (Int.tmod (wrap64 (a1)) (wrap64 ((t101.length : Int) + 1)))).bind fun bt104 => (if 0 ≤ (Int.tmod (wrap64 (a1)) (wrap64 ((t101.length : Int) + 1))) then (if (Int.tmod (wrap64 (a1)) (wrap64 ((t101.length : Int) + 1))) ≤ (t101.length : Int) then ((tree_Root.f k (t101.take ((Int.tmod (wrap64 (a1)) (wrap64 ((t101.length : Int) + 1))) : Int).toNat)).bind fun bt112 => ((tree_Root.f k t101).bind fun bt114 => (if bt104.2 = 0 then (if bt112.2 = 0 then (if bt114.2 = 0 then ((cons_Check.f k (Int.tmod (wrap64 (a1)) (wrap64 ((t101.length : Int) + 1))) (t101.length : Int) bt112.1 bt114.1 bt104.1).bind fun t116 => (if t116 = 0 then ((rubricklaw07_knows.f k).bind fun t117 => (some t117)) else (some false))) else (some false)) else (some false)) else (some false)))) else (none)) else (none)))) = some true := H
 have A3 := Aside0.mk A30
 clear A30
 by_cases c4 : (wrap64 ((t101.length : Int) + 1)) = 0
 ·rw [if_pos c4] at H
  exact absurd H (by simp)
 ·rw [if_neg c4] at H
  have c4b0 : ((wrap64 ((t101.length : Int) + 1)) == 0) = false := beq_eq_false_iff_ne.mpr c4
  have c4b1 : ((wrap64 ((t101.length : Int) + 1)) != 0) = true := bne_iff_ne.mpr c4
  replace H := Option.bind_eq_some_iff.mp H
  obtain ⟨⟨t104, t105⟩, A50, H⟩ := H
  replace H : (if 0 ≤ (Int.tmod (wrap64 (a1)) (wrap64 ((t101.length : Int) + 1))) then (if (Int.tmod (wrap64 (a1)) (wrap64 ((t101.length : Int) + 1))) ≤ (t101.length : Int) then ((tree_Root.f k (t101.take ((Int.tmod (wrap64 (a1)) (wrap64 ((t101.length : Int) + 1))) : Int).toNat)).bind fun bt112 => ((tree_Root.f k t101).bind fun bt114 => (if t105 = 0 then (if bt112.2 = 0 then (if bt114.2 = 0 then ((cons_Check.f k (Int.tmod (wrap64 (a1)) (wrap64 ((t101.length : Int) + 1))) (t101.length : Int) bt112.1 bt114.1 t104).bind fun t116 => (if t116 = 0 then ((rubricklaw07_knows.f k).bind fun t117 => (some t117)) else (some false))) else (some false)) else (some false)) else (some false)))) else (none)) else (none)) = some true := H
  have A5 := Aside0.mk A50
  clear A50
  obtain ⟨ji6, hji6⟩ : ∃ j_ : Int, (Int.tmod (wrap64 (a1)) (wrap64 ((t101.length : Int) + 1))) = j_ := ⟨_, rfl⟩
  replace H : (if 0 ≤ (ji6) then (if (ji6) ≤ (t101.length : Int) then ((tree_Root.f k (t101.take ((ji6) : Int).toNat)).bind fun bt112 => ((tree_Root.f k t101).bind fun bt114 => (if t105 = 0 then (if bt112.2 = 0 then (if bt114.2 = 0 then ((cons_Check.f k (ji6) (t101.length : Int) bt112.1 bt114.1 t104).bind fun t116 => (if t116 = 0 then ((rubricklaw07_knows.f k).bind fun t117 => (some t117)) else (some false))) else (some false)) else (some false)) else (some false)))) else (none)) else (none)) = some true := by first | (rw [hji6] at H; exact H) | (simp only [hji6] at H ⊢; exact H)
  (try rw [hji6] at A3)
  (try rw [hji6] at A5)
  by_cases c7 : 0 ≤ (ji6)
  ·rw [if_pos c7] at H
   have c7b0 := eq_true c7
   have c7b1 : decide (0 ≤ (ji6)) = true := decide_eq_true c7
   clear c7
   by_cases c8 : (ji6) ≤ (t101.length : Int)
   ·rw [if_pos c8] at H
    have c8b0 := eq_true c8
    have c8b1 : decide ((ji6) ≤ (t101.length : Int)) = true := decide_eq_true c8
    clear c8
    obtain ⟨y108, hy108⟩ : ∃ y_ : List ByteArray, y_ = (t101.take ((ji6) : Int).toNat) := ⟨_, rfl⟩
    replace H : ((tree_Root.f k y108).bind fun bt112 => ((tree_Root.f k t101).bind fun bt114 => (if t105 = 0 then (if bt112.2 = 0 then (if bt114.2 = 0 then ((cons_Check.f k (ji6) (t101.length : Int) bt112.1 bt114.1 t104).bind fun t116 => (if t116 = 0 then ((rubricklaw07_knows.f k).bind fun t117 => (some t117)) else (some false))) else (some false)) else (some false)) else (some false)))) = some true := by first | (rw [hy108]; with_reducible exact H) | (have H2_ := (Option.bind_some _ _).symm.trans H; rw [hy108]; with_reducible exact H2_) | (have H2_ := (Option.bind_some _ _).symm.trans H; with_reducible exact H2_) | with_reducible exact H | (rw [hy108]; exact H) | exact H
    have Ny108 := Aside0.mk hy108
    clear hy108
    replace H := Option.bind_eq_some_iff.mp H
    obtain ⟨⟨t112, t113⟩, A90, H⟩ := H
    replace H : ((tree_Root.f k t101).bind fun bt114 => (if t105 = 0 then (if t113 = 0 then (if bt114.2 = 0 then ((cons_Check.f k (ji6) (t101.length : Int) t112 bt114.1 t104).bind fun t116 => (if t116 = 0 then ((rubricklaw07_knows.f k).bind fun t117 => (some t117)) else (some false))) else (some false)) else (some false)) else (some false))) = some true := H
    have A9 := Aside0.mk A90
    clear A90
    replace H := Option.bind_eq_some_iff.mp H
    obtain ⟨⟨t114, t115⟩, A100, H⟩ := H
    replace H : (if t105 = 0 then (if t113 = 0 then (if t115 = 0 then ((cons_Check.f k (ji6) (t101.length : Int) t112 t114 t104).bind fun t116 => (if t116 = 0 then ((rubricklaw07_knows.f k).bind fun t117 => (some t117)) else (some false))) else (some false)) else (some false)) else (some false)) = some true := H
    have A10 := Aside0.mk A100
    clear A100
    by_cases c11 : t105 = 0
    ·rw [if_pos c11] at H
     have c11b0 : (t105 == 0) = true := beq_iff_eq.mpr c11
     have c11b1 : (t105 != 0) = false := bne_eq_false_iff_eq.mpr c11
     clear c11
     by_cases c12 : t113 = 0
     ·rw [if_pos c12] at H
      have c12b0 : (t113 == 0) = true := beq_iff_eq.mpr c12
      have c12b1 : (t113 != 0) = false := bne_eq_false_iff_eq.mpr c12
      clear c12
      by_cases c13 : t115 = 0
      ·rw [if_pos c13] at H
       have c13b0 : (t115 == 0) = true := beq_iff_eq.mpr c13
       have c13b1 : (t115 != 0) = false := bne_eq_false_iff_eq.mpr c13
       clear c13
       replace H := Option.bind_eq_some_iff.mp H
       obtain ⟨t116, A140, H⟩ := H
       replace H : (if t116 = 0 then ((rubricklaw07_knows.f k).bind fun t117 => (some t117)) else (some false)) = some true := H
       have A14 := Aside0.mk A140
       clear A140
       by_cases c15 : t116 = 0
       ·rw [if_pos c15] at H
        have c15b0 : (t116 == 0) = true := beq_iff_eq.mpr c15
        have c15b1 : (t116 != 0) = false := bne_eq_false_iff_eq.mpr c15
        clear c15
        replace H := Option.bind_eq_some_iff.mp H
        obtain ⟨t117, A160, H⟩ := H
        replace H : (some t117) = some true := H
        have A16 := Aside0.mk A160
        clear A160
        have HT2_ := Aside0.mk (Option.some.inj H)
        clear H
        go_enter Tryd.func5, Tryd.ntmps5
        go_wp2_with (first | ((with_reducible refine gate_callee (f := 23) rfl ?_); refine goesL_ (some 14) rfl rfl Tryd.func23 (by kernel_rfl) rfl #[.slice A0 l0.length c0] rfl (by (try simp only [List.map_toArray, List.map_cons, List.map_nil]); first | done | rfl | (simp only [List.length_drop, List.length_take]; rfl)) ?_; (with_reducible refine (rubricklaw07_digests.calls k _ _ l0 t101 _ ?side1 ?side2 A3.out).mono ?_); (case side1 => repeat (first | exact HR0.out | (with_reducible refine Kd.C_alloc ?_ _) | (with_reducible refine Kd.C_drewN ?_ _) | (with_reducible refine Kd.C_drew ?_))); (case side2 => exact HC0.out); rintro e w17 ⟨v102, rfl, ho0, hb⟩; refine ⟨_, rfl, ?_⟩; have n0_ := Aside0.mk (Kd.R_lower ho0 (below_size (by repeat (first | (with_reducible first | exact HB.out | apply below_alloc | apply pw_below_drewN | apply below_drew1) | exact HB.out)))); have n1_ := Aside0.mk (below_step (by repeat (first | (with_reducible first | exact HB.out | apply below_alloc | apply pw_below_drewN | apply below_drew1) | exact HB.out)) hb); clear HB; have HO103 := n0_; have HB := n1_; clear n0_ n1_; (try clear hb); (try clear hb2); (try clear hk); (try clear hi); (try clear ho0); obtain ⟨Ao18, co18, eo18⟩ := Kd.R_slice HO103.out; subst eo18) | ((with_reducible refine gate_callee (f := 16) rfl ?_); refine goesL_ (some 24) rfl rfl Tryd.func16 (by kernel_rfl) rfl #[.slice Ao18 t101.length co18, .int .i64 ji6] rfl (by (try simp only [List.map_toArray, List.map_cons, List.map_nil]); first | done | (simp only [hji6]; rfl) | rfl | (simp only [List.length_drop, List.length_take]; rfl)) ?_; (with_reducible refine (cons_Prove.calls k _ _ t101 ji6 t104 t105 _ ?side3 ?side1 ?side2 A5.out).mono ?_); (case side1 => repeat (first | exact (Kd.R_reads' HO103.out).2.2 | (with_reducible refine Kd.C_alloc ?_ _) | (with_reducible refine Kd.C_drewN ?_ _) | (with_reducible refine Kd.C_drew ?_))); (case side2 => exact (Kd.R_reads' HO103.out).2.1); (case side3 => exact gw_step hG_ (by repeat (first | (with_reducible first | exact HB.out | apply below_alloc | apply pw_below_drewN | apply below_drew1) | exact HB.out))); rintro e w19 ⟨v106, rfl, ho0, hb⟩; refine ⟨_, rfl, ?_⟩; have n0_ := Aside0.mk (Kd.R_elder' (by (with_reducible repeat (first | apply Kd.R_alloc | apply Kd.R_drewN | apply Kd.R_drew)); exact HO103.out) (Kd.R_base ho0) hb); have n1_ := Aside0.mk (Kd.R_lower (Kd.R_new' ho0 (Kd.R_lt (by (with_reducible repeat (first | apply Kd.R_alloc | apply Kd.R_drewN | apply Kd.R_drew)); exact HO103.out))) (below_size (by repeat (first | (with_reducible first | exact HB.out | apply below_alloc | apply pw_below_drewN | apply below_drew1) | exact HB.out)))); have n2_ := Aside0.mk (below_step (by repeat (first | (with_reducible first | exact HB.out | apply below_alloc | apply pw_below_drewN | apply below_drew1) | exact HB.out)) hb); clear HO103; clear HB; have HO103 := n0_; have HO107 := n1_; have HB := n2_; clear n0_ n1_ n2_; (try clear hb); (try clear hb2); (try clear hk); (try clear hi); (try clear ho0); have q20 : ((ji6) : Int) ≤ ((t101.length : Int) : Int) := of_decide_eq_true (by first | (with_reducible assumption) | assumption); obtain ⟨i020, hi020, _, hsz20, _⟩ := info_parts info9; have hroom20 : t101.length ≤ co18 := (Kd.R_reads' HO103.out).2.1; have hC20 : Kd.C Kd.string _ Ao18 t101.length t101 := (Kd.R_reads' HO103.out).2.2; have hcut20 := cut_to (P := Tryd.prog) 22 9 .i64 Tryd.underlying22 hi020 Ao18 t101.length co18 (ji6) (of_decide_eq_true (by first | (with_reducible assumption) | assumption)) q20 hroom20; have hr20 := Kd.C_take (m := ((ji6) : Int).toNat) hC20 (by omega); have hy20 : y108.length = ((ji6) : Int).toNat := (by rw [Ny108.out, List.length_take]; omega); rw [← Ny108.out] at hr20; rw [← hy20] at hcut20; have HR111 := Aside0.mk hr20; have HC111 := Aside0.mk (show y108.length ≤ co18 from by omega); clear hr20 hC20 hroom20 hi020 hsz20; have KY20 := Aside0.mk hy20; clear hy20; have KL20 := Aside0.mk (show ((ji6) : Int).toNat ≤ t101.length from by omega); replace q20 := eq_true q20) | ((with_reducible refine gate_callee (f := 24) rfl ?_); refine goesL_ (some 31) rfl rfl Tryd.func24 (by kernel_rfl) rfl #[.slice Ao18 y108.length co18] rfl (by (try simp only [List.map_toArray, List.map_cons, List.map_nil]); first | done | rfl | (simp only [List.length_drop, List.length_take]; rfl)) ?_; (with_reducible refine (tree_Root.calls k _ _ y108 t112 t113 _ ?side3 ?side1 ?side2 A9.out).mono ?_); (case side1 => repeat (first | exact (by repeat (first | (with_reducible exact HR111.out) | (with_reducible refine Kd.C_alloc ?_ _) | (with_reducible refine Kd.C_drewN ?_ _) | (with_reducible refine Kd.C_drew ?_) | exact HR111.out)) | (with_reducible refine Kd.C_alloc ?_ _) | (with_reducible refine Kd.C_drewN ?_ _) | (with_reducible refine Kd.C_drew ?_))); (case side2 => exact HC111.out); (case side3 => exact gw_step hG_ (by repeat (first | (with_reducible first | exact HB.out | apply below_alloc | apply pw_below_drewN | apply below_drew1) | exact HB.out))); rintro e w21 ⟨rfl, hb⟩; refine ⟨_, rfl, ?_⟩; have n0_ := Aside0.mk (Kd.R_below (by (with_reducible repeat (first | apply Kd.R_alloc | apply Kd.R_drewN | apply Kd.R_drew)); exact HO103.out) hb); have n1_ := Aside0.mk (Kd.R_below (by (with_reducible repeat (first | apply Kd.R_alloc | apply Kd.R_drewN | apply Kd.R_drew)); exact HO107.out) hb); have n2_ := Aside0.mk (Kd.C_below (by repeat (first | (with_reducible exact HR111.out) | (with_reducible refine Kd.C_alloc ?_ _) | (with_reducible refine Kd.C_drewN ?_ _) | (with_reducible refine Kd.C_drew ?_) | exact HR111.out)) hb); have n3_ := Aside0.mk (below_step (by repeat (first | (with_reducible first | exact HB.out | apply below_alloc | apply pw_below_drewN | apply below_drew1) | exact HB.out)) hb); clear HO103; clear HO107; clear HR111; clear HB; have HO103 := n0_; have HO107 := n1_; have HR111 := n2_; have HB := n3_; clear n0_ n1_ n2_ n3_; (try clear hb); (try clear hb2); (try clear hk); (try clear hi)) | ((with_reducible refine gate_callee (f := 24) rfl ?_); refine goesL_ (some 36) rfl rfl Tryd.func24 (by kernel_rfl) rfl #[.slice Ao18 t101.length co18] rfl (by (try simp only [List.map_toArray, List.map_cons, List.map_nil]); first | done | rfl | (simp only [List.length_drop, List.length_take]; rfl)) ?_; (with_reducible refine (tree_Root.calls k _ _ t101 t114 t115 _ ?side3 ?side1 ?side2 A10.out).mono ?_); (case side1 => repeat (first | exact (Kd.R_reads' HO103.out).2.2 | (with_reducible refine Kd.C_alloc ?_ _) | (with_reducible refine Kd.C_drewN ?_ _) | (with_reducible refine Kd.C_drew ?_))); (case side2 => exact (Kd.R_reads' HO103.out).2.1); (case side3 => exact gw_step hG_ (by repeat (first | (with_reducible first | exact HB.out | apply below_alloc | apply pw_below_drewN | apply below_drew1) | exact HB.out))); rintro e w22 ⟨rfl, hb⟩; refine ⟨_, rfl, ?_⟩; have n0_ := Aside0.mk (Kd.R_below (by (with_reducible repeat (first | apply Kd.R_alloc | apply Kd.R_drewN | apply Kd.R_drew)); exact HO103.out) hb); have n1_ := Aside0.mk (Kd.R_below (by (with_reducible repeat (first | apply Kd.R_alloc | apply Kd.R_drewN | apply Kd.R_drew)); exact HO107.out) hb); have n2_ := Aside0.mk (Kd.C_below (by repeat (first | (with_reducible exact HR111.out) | (with_reducible refine Kd.C_alloc ?_ _) | (with_reducible refine Kd.C_drewN ?_ _) | (with_reducible refine Kd.C_drew ?_) | exact HR111.out)) hb); have n3_ := Aside0.mk (below_step (by repeat (first | (with_reducible first | exact HB.out | apply below_alloc | apply pw_below_drewN | apply below_drew1) | exact HB.out)) hb); clear HO103; clear HO107; clear HR111; clear HB; have HO103 := n0_; have HO107 := n1_; have HR111 := n2_; have HB := n3_; clear n0_ n1_ n2_ n3_; (try clear hb); (try clear hb2); (try clear hk); (try clear hi); obtain ⟨Ao23, co23, eo23⟩ := Kd.R_slice HO107.out; subst eo23) | (go_at_call 20; (with_reducible refine (cons_Check.calls k ji6 (t101.length : Int) t112 t114 _ _ t104 t116 _ ?side3 ?side1 ?side2 A14.out).mono ?_); (case side1 => repeat (first | exact (Kd.R_reads' HO107.out).2.2 | (with_reducible refine Kd.C_alloc ?_ _) | (with_reducible refine Kd.C_drewN ?_ _) | (with_reducible refine Kd.C_drew ?_))); (case side2 => exact (Kd.R_reads' HO107.out).2.1); (case side3 => exact gw_step hG_ (by repeat (first | (with_reducible first | exact HB.out | apply below_alloc | apply pw_below_drewN | apply below_drew1) | exact HB.out))); rintro e w24 ⟨rfl, hb⟩; have n0_ := Aside0.mk (Kd.R_below (by (with_reducible repeat (first | apply Kd.R_alloc | apply Kd.R_drewN | apply Kd.R_drew)); exact HO103.out) hb); have n1_ := Aside0.mk (Kd.R_below (by (with_reducible repeat (first | apply Kd.R_alloc | apply Kd.R_drewN | apply Kd.R_drew)); exact HO107.out) hb); have n2_ := Aside0.mk (Kd.C_below (by repeat (first | (with_reducible exact HR111.out) | (with_reducible refine Kd.C_alloc ?_ _) | (with_reducible refine Kd.C_drewN ?_ _) | (with_reducible refine Kd.C_drew ?_) | exact HR111.out)) hb); have n3_ := Aside0.mk (below_step (by repeat (first | (with_reducible first | exact HB.out | apply below_alloc | apply pw_below_drewN | apply below_drew1) | exact HB.out)) hb); clear HO103; clear HO107; clear HR111; clear HB; have HO103 := n0_; have HO107 := n1_; have HR111 := n2_; have HB := n3_; clear n0_ n1_ n2_ n3_; (try clear hb); (try clear hb2); (try clear hk); (try clear hi)) | (go_at_call 15; (with_reducible refine (rubricklaw07_knows.calls k  t117 _ ?side1 A16.out).mono ?_); (case side1 => exact gw_step hG_ (by repeat (first | (with_reducible first | exact HB.out | apply below_alloc | apply pw_below_drewN | apply below_drew1) | exact HB.out))); rintro e w25 ⟨rfl, hb⟩; have n0_ := Aside0.mk (Kd.R_below (by (with_reducible repeat (first | apply Kd.R_alloc | apply Kd.R_drewN | apply Kd.R_drew)); exact HO103.out) hb); have n1_ := Aside0.mk (Kd.R_below (by (with_reducible repeat (first | apply Kd.R_alloc | apply Kd.R_drewN | apply Kd.R_drew)); exact HO107.out) hb); have n2_ := Aside0.mk (Kd.C_below (by repeat (first | (with_reducible exact HR111.out) | (with_reducible refine Kd.C_alloc ?_ _) | (with_reducible refine Kd.C_drewN ?_ _) | (with_reducible refine Kd.C_drew ?_) | exact HR111.out)) hb); have n3_ := Aside0.mk (below_step (by repeat (first | (with_reducible first | exact HB.out | apply below_alloc | apply pw_below_drewN | apply below_drew1) | exact HB.out)) hb); clear HO103; clear HO107; clear HR111; clear HB; have HO103 := n0_; have HO107 := n1_; have HR111 := n2_; have HB := n3_; clear n0_ n1_ n2_ n3_; (try clear hb); (try clear hb2); (try clear hk); (try clear hi)))
        go_ret
        exact ⟨by first | rfl | (simp [errW_none, errW_some] <;> rfl) | exact congrArg (fun b_ : Bool => Ending.returned (Value.bool b_)) HT2_.out | (simp only [← hji6]; first | rfl | (simp [errW_none, errW_some] <;> rfl)) | (simp [*, errW_none, errW_some] <;> rfl), by repeat (first | (with_reducible first | exact HB.out | apply below_alloc | apply pw_below_drewN | apply below_drew1) | exact HB.out)⟩
       ·rw [if_neg c15] at H
        have c15b0 : (t116 == 0) = false := beq_eq_false_iff_ne.mpr c15
        have c15b1 : (t116 != 0) = true := bne_iff_ne.mpr c15
        cases H
      ·rw [if_neg c13] at H
       have c13b0 : (t115 == 0) = false := beq_eq_false_iff_ne.mpr c13
       have c13b1 : (t115 != 0) = true := bne_iff_ne.mpr c13
       cases H
     ·rw [if_neg c12] at H
      have c12b0 : (t113 == 0) = false := beq_eq_false_iff_ne.mpr c12
      have c12b1 : (t113 != 0) = true := bne_iff_ne.mpr c12
      cases H
    ·rw [if_neg c11] at H
     have c11b0 : (t105 == 0) = false := beq_eq_false_iff_ne.mpr c11
     have c11b1 : (t105 != 0) = true := bne_iff_ne.mpr c11
     cases H
   ·rw [if_neg c8] at H
    exact absurd H (by simp)
  ·rw [if_neg c7] at H
   exact absurd H (by simp)
end Go.Proofs.YtpmefpdafkbphaaDoor.PConsBack

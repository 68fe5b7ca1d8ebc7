import Derived.Test.YtgcfhgkhokljcaaProg
import Derived.Below
import Derived.Deep.Draws
import Derived.Deep.AppendLies
import Derived.Maps.AppendAt
import Derived.OwnWalk
import Derived.Laws.BytesArg
import Derived.Laws.MakeOwn
import Derived.Laws.OwnMore
import Derived.Deep.OwnRows
import Derived.Tactics
import Derived.Lib.ConvBytes
import Derived.Laws.Slices
import Derived.WalkKit
import Derived.KernelRfl
import Derived.RowKit3
import Derived.Deep.LoopGhost
import Derived.Deep.QuietTactic
import Derived.BigQuiet
import Derived.WideLaws
import Derived.Deep.DeepCutAuto
import Derived.Deep.CutBlock
import Derived.Deep.RegionHeld3
import Derived.Laws.Rows
import Derived.Lib.AppendStr
import Derived.ArgAppend
import Derived.Laws.IdiomCopy
import Derived.OrdersHeld
import Derived.Laws.BitsLemmas
import Derived.RowKit
import Derived.WalkMore
import Derived.Test.YtgcfhgkhokljcaaZbPA
import Derived.Test.YtgcfhgkhokljcaaZbWWords
import Derived.Test.YtgcfhgkhokljcaaZbWLast
import Derived.Test.YtgcfhgkhokljcaaZbWApart
import Derived.Test.YtgcfhgkhokljcaaZbWFoot
import Derived.Test.YtgcfhgkhokljcaaZbWKept
import Derived.Test.YtgcfhgkhokljcaaZbWShare
import Derived.Test.YtgcfhgkhokljcaaZbWN
import Derived.Laws.StructEq
import Derived.Test.YtgcfhgkhokljcaaZbWRepsOne
import Derived.Test.YtgcfhgkhokljcaaZbWGuard
import Derived.Test.YtgcfhgkhokljcaaZbWMore
-- PRINTED by print.py (a twelfth state) out of the translation. Not trusted: Lean checks it.
namespace Go.Proofs.Ytgcfhgkhokljcaa.PPostBack
open Go.RowKit  Go.Proofs.Ytgcfhgkhokljcaa.PA Go.Proofs.YtgcfhgkhokljcaaW.PrintWords Go.Proofs.YtgcfhgkhokljcaaW.PrintLast Go.Proofs.YtgcfhgkhokljcaaW.PrintMore
attribute [local go_sem] max2_int min2_int max_two min_two max_three min_three max_four min_four   -- for this text's walks alone
set_option linter.unusedVariables false
set_option linter.unusedSimpArgs false
def errW : Option Int → Value
  | none => .nilIface
  | some c => .iface 0 (.int .i64 c)
theorem errW_none : errW none = .nilIface := rfl
theorem errW_some (c : Int) : errW (some c) = .iface 0 (.int .i64 c) := rfl
theorem info5 : (Try.prog.info? 5).map (fun i => (i.zero, i.size, i.bytes)) = some (some (.int .u8 0), 1, 1) := by kernel_rfl
-- the values' own types
end Go.Proofs.Ytgcfhgkhokljcaa.PPostBack
namespace Go.Proofs.Ytgcfhgkhokljcaa.PPostBack
open Go.RowKit  Go.Proofs.Ytgcfhgkhokljcaa.PA Go.Proofs.YtgcfhgkhokljcaaW.PrintWords Go.Proofs.YtgcfhgkhokljcaaW.PrintLast Go.Proofs.YtgcfhgkhokljcaaW.PrintMore
attribute [local go_sem] max2_int min2_int max_two min_two max_three min_three max_four min_four   -- for this text's walks alone
set_option linter.unusedVariables false
set_option linter.unusedSimpArgs false
/-! ### rubricklaw09_PostBack: function 3 -/
mutual
def rubricklaw09_PostBack.j0 : Nat → List Int → List Int → Bool → Option (Bool)
  | 0, _, _, _ => none
  | k + 1, x0, x1, x19 => if x19 = true then ((rubricklaw09_knows.f k).bind fun t102 => (some t102)) else ((post_Write.f k x0).bind fun bt103 => (if bt103.2 = 0 then ((post_Read.f k bt103.1).bind fun bt107 => ((rubrickref09_Same.f k x0 bt107.1).bind fun t111 => (if t111 = true then (if bt107.2 = 0 then (rubricklaw09_PostBack.j1 k x1) else (some false)) else (some false)))) else (rubricklaw09_PostBack.j1 k x1)))
def rubricklaw09_PostBack.j1 : Nat → List Int → Option (Bool)
  | 0, _ => none
  | k + 1, x1 => (some (([] : List Int) : List Int)).bind fun y112 => (if y112.length + x1.length < 140737488355328 then ((post_Read.f k (y112 ++ x1)).bind fun bt118 => (if bt118.2 = 0 then ((post_Write.f k bt118.1).bind fun bt122 => (if (strOfNums bt122.1).toList = (strOfNums x1).toList then (if bt122.2 = 0 then ((post_Right.f k bt118.1).bind fun t126 => (if t126 = true then ((rubricklaw09_knows.f k).bind fun t127 => (some t127)) else (some false))) else (some false)) else (some false))) else (if (bt118.1.length : Int) = 0 then ((rubricklaw09_knows.f k).bind fun t128 => (some t128)) else (some false)))) else (none))
end
def rubricklaw09_PostBack.f (k : Nat) (l0 : List Int) (l1 : List Int) : Option (Bool) := (rubricklaw09_great.f l0).bind fun t101 => (if t101 = true then (rubricklaw09_PostBack.j0 k l0 l1 true) else (rubricklaw09_PostBack.j0 k l0 l1 (decide ((l1.length : Int) > 3000))))
set_option maxHeartbeats 8000000 in
set_option maxRecDepth 100000 in
theorem rubricklaw09_PostBack.calls (k : Nat) (A0 : Option Addr) (c0 : Nat) (l0 : List Int) (A1 : Option Addr) (c1 : Nat) (l1 : List Int) (r : Bool) (w : World) (hr0 : Kd.C (Kd.int .i64) w A0 l0.length l0) (hc0 : l0.length ≤ c0) (hr1 : Kd.C (Kd.int .u8) w A1 l1.length l1) (hc1 : l1.length ≤ c1) (h : rubricklaw09_PostBack.f k l0 l1 = some r) (hT_ : r = true) :
    Calls Try.prog 3 #[.slice A0 l0.length c0, .slice A1 l1.length c1] w fun e w' => e = .returned (.bool r) ∧ Below w.heap.size w w' := by
  have HR0 := Aside0.mk hr0
  have HC0 := Aside0.mk hc0
  clear hr0 hc0
  have HR1 := Aside0.mk hr1
  have HC1 := Aside0.mk hc1
  clear hr1 hc1
  have HB := Aside0.mk (Below.refl w.heap.size w)
  subst hT_
  have H : ((rubricklaw09_great.f l0).bind fun t101 => (if t101 = true then (rubricklaw09_PostBack.j0 k l0 l1 true) else (rubricklaw09_PostBack.j0 k l0 l1 (decide ((l1.length : Int) > 3000))))) = some true := h
  clear h
  have HC3 := Aside0.mk H
  clear H
  go_enter Try.func3, Try.ntmps3
  go_upto_region 1 with (fail)
  go_cut [19] (fun v19 wc => ∃ (kq : Nat) (x19_2 : Bool), v19 = .bool x19_2 ∧ Aside0 (rubricklaw09_PostBack.j0 kq l0 l1 x19_2 = some true) ∧ Aside0 (kq ≤ k) ∧ Aside0 (Below w.heap.size w wc))
  case first =>
    have H := HC3.out
    clear HC3
    replace H := Option.bind_eq_some_iff.mp H
    obtain ⟨t101, A40, H⟩ := H
    replace H : (if t101 = true then (rubricklaw09_PostBack.j0 k l0 l1 true) else (rubricklaw09_PostBack.j0 k l0 l1 (decide ((l1.length : Int) > 3000)))) = some true := H
    have A4 := Aside0.mk A40
    clear A40
    by_cases c5 : t101 = true
    · subst c5
      have H1 : (rubricklaw09_PostBack.j0 k l0 l1 true) = some true := by rw [if_pos rfl] at H; exact H
      clear H
      have H := H1
      clear H1
      have H' := Aside0.mk H
      clear H
      go_wp2_with (first | ((with_reducible refine gate_callee (f := 7) rfl ?_); refine goesL_ (some 14) rfl rfl Try.func7 (by kernel_rfl) rfl #[.slice A0 l0.length c0] rfl (by (try simp only [List.map_toArray, List.map_cons, List.map_nil]); first | done | rfl | (simp only [List.length_drop, List.length_take]; rfl)) ?_; (with_reducible refine (rubricklaw09_great.calls _ _ l0 true _ ?side1 ?side2 A4.out).mono ?_); (case side1 => repeat (first | exact (Kd.C_below HR0.out HB.out) | (with_reducible refine Kd.C_alloc ?_ _) | (with_reducible refine Kd.C_drewN ?_ _) | (with_reducible refine Kd.C_drew ?_))); (case side2 => exact HC0.out); rintro e w' ⟨rfl, ⟨nd, rfl⟩⟩; refine ⟨_, rfl, ?_⟩))
      go_meet
      case rel => exact ⟨_, (true), (by first | rfl | (simp; done) | (simp [*]; done)), H', ⟨by first | omega | exact Nat.le_refl _⟩, ⟨by repeat (first | (with_reducible first | exact HB.out | apply below_alloc | apply pw_below_drewN | apply below_drew1) | exact HB.out)⟩⟩
    · replace c5 := Bool.eq_false_iff.mpr c5
      subst c5
      have H1 : (rubricklaw09_PostBack.j0 k l0 l1 (decide ((l1.length : Int) > 3000))) = some true := by rw [if_neg (show ¬ (false = true) by decide)] at H; exact H
      clear H
      have H := H1
      clear H1
      have H' := Aside0.mk H
      clear H
      go_wp2_with (first | ((with_reducible refine gate_callee (f := 7) rfl ?_); refine goesL_ (some 14) rfl rfl Try.func7 (by kernel_rfl) rfl #[.slice A0 l0.length c0] rfl (by (try simp only [List.map_toArray, List.map_cons, List.map_nil]); first | done | rfl | (simp only [List.length_drop, List.length_take]; rfl)) ?_; (with_reducible refine (rubricklaw09_great.calls _ _ l0 false _ ?side1 ?side2 A4.out).mono ?_); (case side1 => repeat (first | exact (Kd.C_below HR0.out HB.out) | (with_reducible refine Kd.C_alloc ?_ _) | (with_reducible refine Kd.C_drewN ?_ _) | (with_reducible refine Kd.C_drew ?_))); (case side2 => exact HC0.out); rintro e w' ⟨rfl, ⟨nd, rfl⟩⟩; refine ⟨_, rfl, ?_⟩))
      go_meet
      case rel => exact ⟨_, (decide ((l1.length : Int) > 3000)), (by first | rfl | (simp; done) | (simp [*]; done)), H', ⟨by first | omega | exact Nat.le_refl _⟩, ⟨by repeat (first | (with_reducible first | exact HB.out | apply below_alloc | apply pw_below_drewN | apply below_drew1) | exact HB.out)⟩⟩
  case rest =>
    clear HC3
    try clear c1
    try clear p2
    try clear c3
    try clear c5
    obtain ⟨kq, x19_2, rfl, HA, HJ2, HB⟩ := hcut
    cases kq with
    | zero => exact absurd HA.out (by simp [rubricklaw09_PostBack.j0])
    | succ kj2 =>
      have H := HA.out
      clear HA
      simp only [rubricklaw09_PostBack.j0] at H
      by_cases c6 : x19_2 = true
      · subst c6
        have H1 : ((rubricklaw09_knows.f kj2).bind fun t102 => (some t102)) = some true := by rw [if_pos rfl] at H; exact H
        clear H
        have H := H1
        clear H1
        replace H := Option.bind_eq_some_iff.mp H
        obtain ⟨t102, A70, H⟩ := H
        replace H : (some t102) = some true := H
        have A7 := Aside0.mk A70
        clear A70
        have HT2_ := Aside0.mk (Option.some.inj H)
        clear H
        go_wp2_with (first | ((with_reducible refine gate_callee (f := 8) rfl ?_); refine goesL_ (some 20) rfl rfl Try.func8 (by kernel_rfl) rfl #[] rfl (by (try simp only [List.map_toArray, List.map_cons, List.map_nil]); first | done | rfl | (simp only [List.length_drop, List.length_take]; rfl)) ?_; (with_reducible refine (rubricklaw09_knows.calls kj2  t102 _ A7.out).mono ?_); rintro e w8 ⟨rfl, hb⟩; refine ⟨_, rfl, ?_⟩; have n0_ := Aside0.mk (below_step (by repeat (first | (with_reducible first | exact HB.out | apply below_alloc | apply pw_below_drewN | apply below_drew1) | exact HB.out)) hb); clear HB; have HB := n0_; clear n0_; (try clear hb); (try clear hb2); (try clear hk); (try clear hi)))
        go_ret
        exact ⟨by first | rfl | (simp [errW_none, errW_some] <;> rfl) | exact congrArg (fun b_ : Bool => Ending.returned (Value.bool b_)) HT2_.out | (simp [*, errW_none, errW_some] <;> rfl), by repeat (first | (with_reducible first | exact HB.out | apply below_alloc | apply pw_below_drewN | apply below_drew1) | exact HB.out)⟩
      · replace c6 := Bool.eq_false_iff.mpr c6
        subst c6
        have H1 : ((post_Write.f kj2 l0).bind fun bt103 => (if bt103.2 = 0 then ((post_Read.f kj2 bt103.1).bind fun bt107 => ((rubrickref09_Same.f kj2 l0 bt107.1).bind fun t111 => (if t111 = true then (if bt107.2 = 0 then (rubricklaw09_PostBack.j1 kj2 l1) else (some false)) else (some false)))) else (rubricklaw09_PostBack.j1 kj2 l1))) = some true := by rw [if_neg (show ¬ (false = true) by decide)] at H; exact H
        clear H
        have H := H1
        clear H1
        replace H := Option.bind_eq_some_iff.mp H
        obtain ⟨⟨t103, t104⟩, A90, H⟩ := H
        replace H : (if t104 = 0 then ((post_Read.f kj2 t103).bind fun bt107 => ((rubrickref09_Same.f kj2 l0 bt107.1).bind fun t111 => (if t111 = true then (if bt107.2 = 0 then (rubricklaw09_PostBack.j1 kj2 l1) else (some false)) else (some false)))) else (rubricklaw09_PostBack.j1 kj2 l1)) = some true := H
        have A9 := Aside0.mk A90
        clear A90
        have HC10 := Aside0.mk H
        clear H
        go_upto_if 27 with (first | ((with_reducible refine gate_callee (f := 9) rfl ?_); refine goesL_ (some 23) rfl rfl Try.func9 (by kernel_rfl) rfl #[.slice A0 l0.length c0] rfl (by (try simp only [List.map_toArray, List.map_cons, List.map_nil]); first | done | rfl | (simp only [List.length_drop, List.length_take]; rfl)) ?_; (with_reducible refine (post_Write.calls kj2 _ _ l0 t103 t104 _ ?side1 ?side2 A9.out).mono ?_); (case side1 => repeat (first | exact (Kd.C_below HR0.out HB.out) | (with_reducible refine Kd.C_alloc ?_ _) | (with_reducible refine Kd.C_drewN ?_ _) | (with_reducible refine Kd.C_drew ?_))); (case side2 => exact HC0.out); rintro e w11 ⟨v105, rfl, ho0, hb⟩; refine ⟨_, rfl, ?_⟩; have n0_ := Aside0.mk (Kd.R_lower ho0 (below_size (by repeat (first | (with_reducible first | exact HB.out | apply below_alloc | apply pw_below_drewN | apply below_drew1) | exact HB.out)))); have n1_ := Aside0.mk (below_step (by repeat (first | (with_reducible first | exact HB.out | apply below_alloc | apply pw_below_drewN | apply below_drew1) | exact HB.out)) hb); clear HB; have HO106 := n0_; have HB := n1_; clear n0_ n1_; (try clear hb); (try clear hb2); (try clear hk); (try clear hi); (try clear ho0)))
        (try simp only [Act.put, List.setIfInBounds_toArray, List.set_cons_zero, List.set_cons_succ])
        go_cut [] (fun wc => ∃ (kq : Nat), Aside0 (rubricklaw09_PostBack.j1 kq l1 = some true) ∧ Aside0 (kq ≤ kj2) ∧ Aside0 (Below w.heap.size w wc))
        case first =>
          have H := HC10.out
          clear HC10
          by_cases c12 : t104 = 0
          · rw [if_pos c12] at H
            have c12b0 : (t104 == 0) = true := beq_iff_eq.mpr c12
            have c12b1 : (t104 != 0) = false := bne_eq_false_iff_eq.mpr c12
            clear c12
            (first | rw [c12b0] | (simp only [i64_w, i32_w]; rw [c12b0]) | skip)
            replace H := Option.bind_eq_some_iff.mp H
            obtain ⟨⟨t107, t108⟩, A130, H⟩ := H
            replace H : ((rubrickref09_Same.f kj2 l0 t107).bind fun t111 => (if t111 = true then (if t108 = 0 then (rubricklaw09_PostBack.j1 kj2 l1) else (some false)) else (some false))) = some true := H
            have A13 := Aside0.mk A130
            clear A130
            replace H := Option.bind_eq_some_iff.mp H
            obtain ⟨t111, A140, H⟩ := H
            replace H : (if t111 = true then (if t108 = 0 then (rubricklaw09_PostBack.j1 kj2 l1) else (some false)) else (some false)) = some true := H
            have A14 := Aside0.mk A140
            clear A140
            by_cases c15 : t111 = true
            · subst c15
              have H1 : (if t108 = 0 then (rubricklaw09_PostBack.j1 kj2 l1) else (some false)) = some true := by rw [if_pos rfl] at H; exact H
              clear H
              have H := H1
              clear H1
              by_cases c16 : t108 = 0
              · rw [if_pos c16] at H
                have c16b0 : (t108 == 0) = true := beq_iff_eq.mpr c16
                have c16b1 : (t108 != 0) = false := bne_eq_false_iff_eq.mpr c16
                clear c16
                have H' := Aside0.mk H
                clear H
                obtain ⟨Ao17, co17, eo17⟩ := Kd.R_slice HO106.out
                subst eo17
                go_wp2_with (first | ((with_reducible refine gate_callee (f := 10) rfl ?_); refine goesL_ (some 30) rfl rfl Try.func10 (by kernel_rfl) rfl #[.slice Ao17 t103.length co17] rfl (by (try simp only [List.map_toArray, List.map_cons, List.map_nil]); first | done | rfl | (simp only [List.length_drop, List.length_take]; rfl)) ?_; (with_reducible refine (post_Read.calls kj2 _ _ t103 t107 t108 _ ?side1 ?side2 A13.out).mono ?_); (case side1 => repeat (first | exact (Kd.R_reads' HO106.out).2.2 | (with_reducible refine Kd.C_alloc ?_ _) | (with_reducible refine Kd.C_drewN ?_ _) | (with_reducible refine Kd.C_drew ?_))); (case side2 => exact (Kd.R_reads' HO106.out).2.1); rintro e w18 ⟨v109, rfl, ho0, hb⟩; refine ⟨_, rfl, ?_⟩; have n0_ := Aside0.mk (Kd.R_below (by (with_reducible repeat (first | apply Kd.R_alloc | apply Kd.R_drewN | apply Kd.R_drew)); exact HO106.out) hb); have n1_ := Aside0.mk (Kd.R_lower ho0 (below_size (by repeat (first | (with_reducible first | exact HB.out | apply below_alloc | apply pw_below_drewN | apply below_drew1) | exact HB.out)))); have n2_ := Aside0.mk (below_step (by repeat (first | (with_reducible first | exact HB.out | apply below_alloc | apply pw_below_drewN | apply below_drew1) | exact HB.out)) hb); clear HO106; clear HB; have HO106 := n0_; have HO110 := n1_; have HB := n2_; clear n0_ n1_ n2_; (try clear hb); (try clear hb2); (try clear hk); (try clear hi); (try clear ho0); obtain ⟨Ao19, co19, eo19⟩ := Kd.R_slice HO110.out; subst eo19) | ((with_reducible refine gate_callee (f := 11) rfl ?_); refine goesL_ (some 35) rfl rfl Try.func11 (by kernel_rfl) rfl #[.slice A0 l0.length c0, .slice Ao19 t107.length co19] rfl (by (try simp only [List.map_toArray, List.map_cons, List.map_nil]); first | done | rfl | (simp only [List.length_drop, List.length_take]; rfl)) ?_; (with_reducible refine (rubrickref09_Same.calls kj2 _ _ l0 _ _ t107 true _ ?side1 ?side2 ?side3 ?side4 A14.out).mono ?_); (case side1 => repeat (first | exact (Kd.C_below HR0.out HB.out) | (with_reducible refine Kd.C_alloc ?_ _) | (with_reducible refine Kd.C_drewN ?_ _) | (with_reducible refine Kd.C_drew ?_))); (case side2 => exact HC0.out); (case side3 => repeat (first | exact (Kd.R_reads' HO110.out).2.2 | (with_reducible refine Kd.C_alloc ?_ _) | (with_reducible refine Kd.C_drewN ?_ _) | (with_reducible refine Kd.C_drew ?_))); (case side4 => exact (Kd.R_reads' HO110.out).2.1); rintro e w' ⟨rfl, ⟨nd, rfl⟩⟩; refine ⟨_, rfl, ?_⟩))
                go_meet
                case rel => exact ⟨_, H', ⟨by have := HJ2.out; first | omega | exact Nat.le_refl _⟩, ⟨by repeat (first | (with_reducible first | exact HB.out | apply below_alloc | apply pw_below_drewN | apply below_drew1) | exact HB.out)⟩⟩
              · rw [if_neg c16] at H
                have c16b0 : (t108 == 0) = false := beq_eq_false_iff_ne.mpr c16
                have c16b1 : (t108 != 0) = true := bne_iff_ne.mpr c16
                cases H
            · replace c15 := Bool.eq_false_iff.mpr c15
              subst c15
              have H1 : (some false) = some true := by rw [if_neg (show ¬ (false = true) by decide)] at H; exact H
              clear H
              have H := H1
              clear H1
              cases H
          · rw [if_neg c12] at H
            have c12b0 : (t104 == 0) = false := beq_eq_false_iff_ne.mpr c12
            have c12b1 : (t104 != 0) = true := bne_iff_ne.mpr c12
            (first | rw [c12b0] | (simp only [i64_w, i32_w]; rw [c12b0]) | skip)
            have H' := Aside0.mk H
            clear H
            go_wp2
            go_meet
            case rel => exact ⟨_, H', ⟨by have := HJ2.out; first | omega | exact Nat.le_refl _⟩, ⟨by repeat (first | (with_reducible first | exact HB.out | apply below_alloc | apply pw_below_drewN | apply below_drew1) | exact HB.out)⟩⟩
        case rest =>
          clear HC10
          try clear c1
          try clear p2
          try clear c3
          try clear c5
          try clear c6
          try clear c7
          try clear c8
          try clear c9
          try clear c10
          try clear c11
          try clear c12
          try clear c12b0
          try clear c12b1
          try clear c15
          try clear c16
          try clear c16b0
          try clear c16b1
          try clear p2
          obtain ⟨kq, HA, HJ9, HB⟩ := hcut
          cases kq with
          | zero => exact absurd HA.out (by simp [rubricklaw09_PostBack.j1])
          | succ kj9 =>
            have H := HA.out
            clear HA
            simp only [rubricklaw09_PostBack.j1] at H
            obtain ⟨y112, hy112⟩ : ∃ y_ : List Int, y_ = (([] : List Int)) := ⟨_, rfl⟩
            replace H : (if y112.length + l1.length < 140737488355328 then ((post_Read.f kj9 (y112 ++ l1)).bind fun bt118 => (if bt118.2 = 0 then ((post_Write.f kj9 bt118.1).bind fun bt122 => (if (strOfNums bt122.1).toList = (strOfNums l1).toList then (if bt122.2 = 0 then ((post_Right.f kj9 bt118.1).bind fun t126 => (if t126 = true then ((rubricklaw09_knows.f kj9).bind fun t127 => (some t127)) else (some false))) else (some false)) else (some false))) else (if (bt118.1.length : Int) = 0 then ((rubricklaw09_knows.f kj9).bind fun t128 => (some t128)) else (some false)))) else (none)) = some true := by first | (rw [hy112]; with_reducible exact H) | (have H2_ := (Option.bind_some _ _).symm.trans H; rw [hy112]; with_reducible exact H2_) | (have H2_ := (Option.bind_some _ _).symm.trans H; with_reducible exact H2_) | with_reducible exact H | (rw [hy112]; exact H) | exact H
            have Ny112 := Aside0.mk hy112
            clear hy112
            by_cases c20 : y112.length + l1.length < 140737488355328
            · rw [if_pos c20] at H
              have LMc20 := Aside0.mk c20
              clear c20
              obtain ⟨y115, hy115⟩ : ∃ y_ : List Int, y_ = (y112 ++ l1) := ⟨_, rfl⟩
              replace H : ((post_Read.f kj9 y115).bind fun bt118 => (if bt118.2 = 0 then ((post_Write.f kj9 bt118.1).bind fun bt122 => (if (strOfNums bt122.1).toList = (strOfNums l1).toList then (if bt122.2 = 0 then ((post_Right.f kj9 bt118.1).bind fun t126 => (if t126 = true then ((rubricklaw09_knows.f kj9).bind fun t127 => (some t127)) else (some false))) else (some false)) else (some false))) else (if (bt118.1.length : Int) = 0 then ((rubricklaw09_knows.f kj9).bind fun t128 => (some t128)) else (some false)))) = some true := by first | (rw [hy115]; with_reducible exact H) | (have H2_ := (Option.bind_some _ _).symm.trans H; rw [hy115]; with_reducible exact H2_) | (have H2_ := (Option.bind_some _ _).symm.trans H; with_reducible exact H2_) | with_reducible exact H | (rw [hy115]; exact H) | exact H
              have Ny115 := Aside0.mk hy115
              clear hy115
              replace H := Option.bind_eq_some_iff.mp H
              obtain ⟨⟨t118, t119⟩, A210, H⟩ := H
              replace H : (if t119 = 0 then ((post_Write.f kj9 t118).bind fun bt122 => (if (strOfNums bt122.1).toList = (strOfNums l1).toList then (if bt122.2 = 0 then ((post_Right.f kj9 t118).bind fun t126 => (if t126 = true then ((rubricklaw09_knows.f kj9).bind fun t127 => (some t127)) else (some false))) else (some false)) else (some false))) else (if (t118.length : Int) = 0 then ((rubricklaw09_knows.f kj9).bind fun t128 => (some t128)) else (some false))) = some true := H
              have A21 := Aside0.mk A210
              clear A210
              by_cases c22 : t119 = 0
              · rw [if_pos c22] at H
                have c22b0 : (t119 == 0) = true := beq_iff_eq.mpr c22
                have c22b1 : (t119 != 0) = false := bne_eq_false_iff_eq.mpr c22
                clear c22
                replace H := Option.bind_eq_some_iff.mp H
                obtain ⟨⟨t122, t123⟩, A230, H⟩ := H
                replace H : (if (strOfNums t122).toList = (strOfNums l1).toList then (if t123 = 0 then ((post_Right.f kj9 t118).bind fun t126 => (if t126 = true then ((rubricklaw09_knows.f kj9).bind fun t127 => (some t127)) else (some false))) else (some false)) else (some false)) = some true := H
                have A23 := Aside0.mk A230
                clear A230
                by_cases c24 : (strOfNums t122).toList = (strOfNums l1).toList
                · rw [if_pos c24] at H
                  have c24b0 : ((strOfNums t122).toList == (strOfNums l1).toList) = true := beq_iff_eq.mpr c24
                  have c24b1 : ((strOfNums t122).toList != (strOfNums l1).toList) = false := bne_eq_false_iff_eq.mpr c24
                  clear c24
                  by_cases c25 : t123 = 0
                  · rw [if_pos c25] at H
                    have c25b0 : (t123 == 0) = true := beq_iff_eq.mpr c25
                    have c25b1 : (t123 != 0) = false := bne_eq_false_iff_eq.mpr c25
                    clear c25
                    replace H := Option.bind_eq_some_iff.mp H
                    obtain ⟨t126, A260, H⟩ := H
                    replace H : (if t126 = true then ((rubricklaw09_knows.f kj9).bind fun t127 => (some t127)) else (some false)) = some true := H
                    have A26 := Aside0.mk A260
                    clear A260
                    by_cases c27 : t126 = true
                    · subst c27
                      have H1 : ((rubricklaw09_knows.f kj9).bind fun t127 => (some t127)) = some true := by rw [if_pos rfl] at H; exact H
                      clear H
                      have H := H1
                      clear H1
                      replace H := Option.bind_eq_some_iff.mp H
                      obtain ⟨t127, A280, H⟩ := H
                      replace H : (some t127) = some true := H
                      have A28 := Aside0.mk A280
                      clear A280
                      have HT2_ := Aside0.mk (Option.some.inj H)
                      clear H
                      go_wp2_with (first | ((with_reducible refine gate_dst (N := 42) rfl ?_); (try (refine gate_guard (by rfl) ?_; dsimp only)); refine Kd.R_lit (Kd.int .u8) _ 5 ?hg (N := 42) ?hd (xs := ([] : List Int)) (inner := []) (ok := fun _ => True) (okp := fun _ => True) ?hr ?hp (fun _ hk => hk) trivial (Below.refl _ _) (Nat.le_refl _) (by simp) ?_; (case hd => rfl); (case hg => rfl); (case hr => first | (go_simp; done) | (go_simp; rfl)); (case hp => exact (Reps.none _ _)); intro v113 w29 ho30 hb hg_ hnew_; clear hg_ hnew_; (first | rw [← Ny112.out] at ho30 | (simp only [Int.reduceToNat] at ho30; rw [← Ny112.out] at ho30)); have n0_ := Aside0.mk (Kd.R_lower ho30 (below_size (by repeat (first | (with_reducible first | exact HB.out | apply below_alloc | apply pw_below_drewN | apply below_drew1) | exact HB.out)))); have n1_ := Aside0.mk (below_step (by repeat (first | (with_reducible first | exact HB.out | apply below_alloc | apply pw_below_drewN | apply below_drew1) | exact HB.out)) hb); clear HB; have HO114 := n0_; have HB := n1_; clear n0_ n1_; clear hb ho30) | ((with_reducible refine gate_builtin (b := .append) (xs := #[.tmp 42, .tmp 43]) rfl ?_); (try (refine gate_guard (by rfl) ?_; dsimp only)); at_builtin; refine Kd.R_append_rows (Kd.int .u8) (w0 := w) w.heap.size rfl (.tmp 42) (.tmp 43) 23 5 (.int .u8 0) 1 rfl Try.underlying23 info5 rfl (by decide) (by omega) v113 y112 l1 _ _ _ (fun _ => True) (fun _ => False) rfl rfl ?aO ?aR (fun _ _ h => h) (fun _ h => h.elim) ?aF ?aB ?aS ?aL ?_; (case aR => repeat (first | exact (Kd.C_below HR1.out HB.out) | (with_reducible refine Kd.C_alloc ?_ _) | (with_reducible refine Kd.C_drewN ?_ _) | (with_reducible refine Kd.C_drew ?_))); (case aB => exact (by repeat (first | (with_reducible first | exact HB.out | apply below_alloc | apply pw_below_drewN | apply below_drew1) | exact HB.out))); (case aF => exact (fun _ _ => trivial)); (case aO => exact (by (with_reducible repeat (first | apply Kd.R_alloc | apply Kd.R_drewN | apply Kd.R_drew)); exact HO114.out)); (case aS => exact (below_size (by repeat (first | (with_reducible first | exact HB.out | apply below_alloc | apply pw_below_drewN | apply below_drew1) | exact HB.out)))); (case aL => have := LMc20.out; omega); intro v116 w31 ho hb hg hat; rw [← Ny115.out] at ho; have n0_ := Aside0.mk (hb); have n1_ := Aside0.mk (ho); clear HB; clear HO114; have HB := n0_; have HO117 := n1_; clear n0_ n1_; clear ho hb hg hat; obtain ⟨Ao32, co32, eo32⟩ := Kd.R_slice HO117.out; subst eo32) | ((with_reducible refine gate_callee (f := 10) rfl ?_); refine goesL_ (some 45) rfl rfl Try.func10 (by kernel_rfl) rfl #[.slice Ao32 y115.length co32] rfl (by (try simp only [List.map_toArray, List.map_cons, List.map_nil]); first | done | rfl | (simp only [List.length_drop, List.length_take]; rfl)) ?_; (with_reducible refine (post_Read.calls kj9 _ _ y115 t118 t119 _ ?side1 ?side2 A21.out).mono ?_); (case side1 => repeat (first | exact (Kd.R_reads' HO117.out).2.2 | (with_reducible refine Kd.C_alloc ?_ _) | (with_reducible refine Kd.C_drewN ?_ _) | (with_reducible refine Kd.C_drew ?_))); (case side2 => exact (Kd.R_reads' HO117.out).2.1); rintro e w33 ⟨v120, rfl, ho0, hb⟩; refine ⟨_, rfl, ?_⟩; have n0_ := Aside0.mk (Kd.R_below (by (with_reducible repeat (first | apply Kd.R_alloc | apply Kd.R_drewN | apply Kd.R_drew)); exact HO117.out) hb); have n1_ := Aside0.mk (Kd.R_lower ho0 (below_size (by repeat (first | (with_reducible first | exact HB.out | apply below_alloc | apply pw_below_drewN | apply below_drew1) | exact HB.out)))); have n2_ := Aside0.mk (below_step (by repeat (first | (with_reducible first | exact HB.out | apply below_alloc | apply pw_below_drewN | apply below_drew1) | exact HB.out)) hb); clear HO117; clear HB; have HO117 := n0_; have HO121 := n1_; have HB := n2_; clear n0_ n1_ n2_; (try clear hb); (try clear hb2); (try clear hk); (try clear hi); (try clear ho0); obtain ⟨Ao34, co34, eo34⟩ := Kd.R_slice HO121.out; subst eo34) | ((with_reducible refine gate_callee (f := 9) rfl ?_); refine goesL_ (some 58) rfl rfl Try.func9 (by kernel_rfl) rfl #[.slice Ao34 t118.length co34] rfl (by (try simp only [List.map_toArray, List.map_cons, List.map_nil]); first | done | rfl | (simp only [List.length_drop, List.length_take]; rfl)) ?_; (with_reducible refine (post_Write.calls kj9 _ _ t118 t122 t123 _ ?side1 ?side2 A23.out).mono ?_); (case side1 => repeat (first | exact (Kd.R_reads' HO121.out).2.2 | (with_reducible refine Kd.C_alloc ?_ _) | (with_reducible refine Kd.C_drewN ?_ _) | (with_reducible refine Kd.C_drew ?_))); (case side2 => exact (Kd.R_reads' HO121.out).2.1); rintro e w35 ⟨v124, rfl, ho0, hb⟩; refine ⟨_, rfl, ?_⟩; have n0_ := Aside0.mk (Kd.R_elder' (by (with_reducible repeat (first | apply Kd.R_alloc | apply Kd.R_drewN | apply Kd.R_drew)); exact HO117.out) (Kd.R_base ho0) hb); have n1_ := Aside0.mk (Kd.R_below (by (with_reducible repeat (first | apply Kd.R_alloc | apply Kd.R_drewN | apply Kd.R_drew)); exact HO121.out) hb); have n2_ := Aside0.mk (Kd.R_lower (Kd.R_new' ho0 (Kd.R_lt (by (with_reducible repeat (first | apply Kd.R_alloc | apply Kd.R_drewN | apply Kd.R_drew)); exact HO117.out))) (below_size (by repeat (first | (with_reducible first | exact HB.out | apply below_alloc | apply pw_below_drewN | apply below_drew1) | exact HB.out)))); have n3_ := Aside0.mk (below_step (by repeat (first | (with_reducible first | exact HB.out | apply below_alloc | apply pw_below_drewN | apply below_drew1) | exact HB.out)) hb); clear HO117; clear HO121; clear HB; have HO117 := n0_; have HO121 := n1_; have HO125 := n2_; have HB := n3_; clear n0_ n1_ n2_ n3_; (try clear hb); (try clear hb2); (try clear hk); (try clear hi); (try clear ho0); have hcv36 := own_string (P := Try.prog) Try.underlying23 Try.underlying5 Try.underlying9 (Kd.own_of_R HO125.out); have hcv37 := Kd.C_string (P := Try.prog) (A := A1) (c := c1) Try.underlying23 Try.underlying5 Try.underlying9 (Kd.C_below HR1.out HB.out)) | (go_at_call 12; (with_reducible refine (post_Right.calls kj9 _ _ t118 true _ ?side1 ?side2 A26.out).mono ?_); (case side1 => repeat (first | exact (Kd.R_reads' HO121.out).2.2 | (with_reducible refine Kd.C_alloc ?_ _) | (with_reducible refine Kd.C_drewN ?_ _) | (with_reducible refine Kd.C_drew ?_))); (case side2 => exact (Kd.R_reads' HO121.out).2.1); rintro e w' ⟨rfl, ⟨nd, rfl⟩⟩) | (go_at_call 8; (with_reducible refine (rubricklaw09_knows.calls kj9  t127 _ A28.out).mono ?_); rintro e w38 ⟨rfl, hb⟩; have n0_ := Aside0.mk (Kd.R_below (by (with_reducible repeat (first | apply Kd.R_alloc | apply Kd.R_drewN | apply Kd.R_drew)); exact HO117.out) hb); have n1_ := Aside0.mk (Kd.R_below (by (with_reducible repeat (first | apply Kd.R_alloc | apply Kd.R_drewN | apply Kd.R_drew)); exact HO121.out) hb); have n2_ := Aside0.mk (Kd.R_below (by (with_reducible repeat (first | apply Kd.R_alloc | apply Kd.R_drewN | apply Kd.R_drew)); exact HO125.out) hb); have n3_ := Aside0.mk (below_step (by repeat (first | (with_reducible first | exact HB.out | apply below_alloc | apply pw_below_drewN | apply below_drew1) | exact HB.out)) hb); clear HO117; clear HO121; clear HO125; clear HB; have HO117 := n0_; have HO121 := n1_; have HO125 := n2_; have HB := n3_; clear n0_ n1_ n2_ n3_; (try clear hb); (try clear hb2); (try clear hk); (try clear hi)))
                      go_ret
                      exact ⟨by first | rfl | (simp [errW_none, errW_some] <;> rfl) | exact congrArg (fun b_ : Bool => Ending.returned (Value.bool b_)) HT2_.out | (simp [*, errW_none, errW_some] <;> rfl), by repeat (first | (with_reducible first | exact HB.out | apply below_alloc | apply pw_below_drewN | apply below_drew1) | exact HB.out)⟩
                    · replace c27 := Bool.eq_false_iff.mpr c27
                      subst c27
                      have H1 : (some false) = some true := by rw [if_neg (show ¬ (false = true) by decide)] at H; exact H
                      clear H
                      have H := H1
                      clear H1
                      cases H
                  · rw [if_neg c25] at H
                    have c25b0 : (t123 == 0) = false := beq_eq_false_iff_ne.mpr c25
                    have c25b1 : (t123 != 0) = true := bne_iff_ne.mpr c25
                    cases H
                · rw [if_neg c24] at H
                  have c24b0 : ((strOfNums t122).toList == (strOfNums l1).toList) = false := beq_eq_false_iff_ne.mpr c24
                  have c24b1 : ((strOfNums t122).toList != (strOfNums l1).toList) = true := bne_iff_ne.mpr c24
                  cases H
              · rw [if_neg c22] at H
                have c22b0 : (t119 == 0) = false := beq_eq_false_iff_ne.mpr c22
                have c22b1 : (t119 != 0) = true := bne_iff_ne.mpr c22
                by_cases c39 : (t118.length : Int) = 0
                · rw [if_pos c39] at H
                  have c39b0 : ((t118.length : Int) == 0) = true := beq_iff_eq.mpr c39
                  have c39b1 : ((t118.length : Int) != 0) = false := bne_eq_false_iff_eq.mpr c39
                  clear c39
                  replace H := Option.bind_eq_some_iff.mp H
                  obtain ⟨t128, A400, H⟩ := H
                  replace H : (some t128) = some true := H
                  have A40 := Aside0.mk A400
                  clear A400
                  have HT2_ := Aside0.mk (Option.some.inj H)
                  clear H
                  go_wp2_with (first | ((with_reducible refine gate_dst (N := 42) rfl ?_); (try (refine gate_guard (by rfl) ?_; dsimp only)); refine Kd.R_lit (Kd.int .u8) _ 5 ?hg (N := 42) ?hd (xs := ([] : List Int)) (inner := []) (ok := fun _ => True) (okp := fun _ => True) ?hr ?hp (fun _ hk => hk) trivial (Below.refl _ _) (Nat.le_refl _) (by simp) ?_; (case hd => rfl); (case hg => rfl); (case hr => first | (go_simp; done) | (go_simp; rfl)); (case hp => exact (Reps.none _ _)); intro v113 w41 ho42 hb hg_ hnew_; clear hg_ hnew_; (first | rw [← Ny112.out] at ho42 | (simp only [Int.reduceToNat] at ho42; rw [← Ny112.out] at ho42)); have n0_ := Aside0.mk (Kd.R_lower ho42 (below_size (by repeat (first | (with_reducible first | exact HB.out | apply below_alloc | apply pw_below_drewN | apply below_drew1) | exact HB.out)))); have n1_ := Aside0.mk (below_step (by repeat (first | (with_reducible first | exact HB.out | apply below_alloc | apply pw_below_drewN | apply below_drew1) | exact HB.out)) hb); clear HB; have HO114 := n0_; have HB := n1_; clear n0_ n1_; clear hb ho42) | ((with_reducible refine gate_builtin (b := .append) (xs := #[.tmp 42, .tmp 43]) rfl ?_); (try (refine gate_guard (by rfl) ?_; dsimp only)); at_builtin; refine Kd.R_append_rows (Kd.int .u8) (w0 := w) w.heap.size rfl (.tmp 42) (.tmp 43) 23 5 (.int .u8 0) 1 rfl Try.underlying23 info5 rfl (by decide) (by omega) v113 y112 l1 _ _ _ (fun _ => True) (fun _ => False) rfl rfl ?aO ?aR (fun _ _ h => h) (fun _ h => h.elim) ?aF ?aB ?aS ?aL ?_; (case aR => repeat (first | exact (Kd.C_below HR1.out HB.out) | (with_reducible refine Kd.C_alloc ?_ _) | (with_reducible refine Kd.C_drewN ?_ _) | (with_reducible refine Kd.C_drew ?_))); (case aB => exact (by repeat (first | (with_reducible first | exact HB.out | apply below_alloc | apply pw_below_drewN | apply below_drew1) | exact HB.out))); (case aF => exact (fun _ _ => trivial)); (case aO => exact (by (with_reducible repeat (first | apply Kd.R_alloc | apply Kd.R_drewN | apply Kd.R_drew)); exact HO114.out)); (case aS => exact (below_size (by repeat (first | (with_reducible first | exact HB.out | apply below_alloc | apply pw_below_drewN | apply below_drew1) | exact HB.out)))); (case aL => have := LMc20.out; omega); intro v116 w43 ho hb hg hat; rw [← Ny115.out] at ho; have n0_ := Aside0.mk (hb); have n1_ := Aside0.mk (ho); clear HB; clear HO114; have HB := n0_; have HO117 := n1_; clear n0_ n1_; clear ho hb hg hat; obtain ⟨Ao44, co44, eo44⟩ := Kd.R_slice HO117.out; subst eo44) | ((with_reducible refine gate_callee (f := 10) rfl ?_); refine goesL_ (some 45) rfl rfl Try.func10 (by kernel_rfl) rfl #[.slice Ao44 y115.length co44] rfl (by (try simp only [List.map_toArray, List.map_cons, List.map_nil]); first | done | rfl | (simp only [List.length_drop, List.length_take]; rfl)) ?_; (with_reducible refine (post_Read.calls kj9 _ _ y115 t118 t119 _ ?side1 ?side2 A21.out).mono ?_); (case side1 => repeat (first | exact (Kd.R_reads' HO117.out).2.2 | (with_reducible refine Kd.C_alloc ?_ _) | (with_reducible refine Kd.C_drewN ?_ _) | (with_reducible refine Kd.C_drew ?_))); (case side2 => exact (Kd.R_reads' HO117.out).2.1); rintro e w45 ⟨v120, rfl, ho0, hb⟩; refine ⟨_, rfl, ?_⟩; have n0_ := Aside0.mk (Kd.R_below (by (with_reducible repeat (first | apply Kd.R_alloc | apply Kd.R_drewN | apply Kd.R_drew)); exact HO117.out) hb); have n1_ := Aside0.mk (Kd.R_lower ho0 (below_size (by repeat (first | (with_reducible first | exact HB.out | apply below_alloc | apply pw_below_drewN | apply below_drew1) | exact HB.out)))); have n2_ := Aside0.mk (below_step (by repeat (first | (with_reducible first | exact HB.out | apply below_alloc | apply pw_below_drewN | apply below_drew1) | exact HB.out)) hb); clear HO117; clear HB; have HO117 := n0_; have HO121 := n1_; have HB := n2_; clear n0_ n1_ n2_; (try clear hb); (try clear hb2); (try clear hk); (try clear hi); (try clear ho0); obtain ⟨Ao46, co46, eo46⟩ := Kd.R_slice HO121.out; subst eo46) | (go_at_call 8; (with_reducible refine (rubricklaw09_knows.calls kj9  t128 _ A40.out).mono ?_); rintro e w47 ⟨rfl, hb⟩; have n0_ := Aside0.mk (Kd.R_below (by (with_reducible repeat (first | apply Kd.R_alloc | apply Kd.R_drewN | apply Kd.R_drew)); exact HO117.out) hb); have n1_ := Aside0.mk (Kd.R_below (by (with_reducible repeat (first | apply Kd.R_alloc | apply Kd.R_drewN | apply Kd.R_drew)); exact HO121.out) hb); have n2_ := Aside0.mk (below_step (by repeat (first | (with_reducible first | exact HB.out | apply below_alloc | apply pw_below_drewN | apply below_drew1) | exact HB.out)) hb); clear HO117; clear HO121; clear HB; have HO117 := n0_; have HO121 := n1_; have HB := n2_; clear n0_ n1_ n2_; (try clear hb); (try clear hb2); (try clear hk); (try clear hi)))
                  go_ret
                  exact ⟨by first | rfl | (simp [errW_none, errW_some] <;> rfl) | exact congrArg (fun b_ : Bool => Ending.returned (Value.bool b_)) HT2_.out | (simp [*, errW_none, errW_some] <;> rfl), by repeat (first | (with_reducible first | exact HB.out | apply below_alloc | apply pw_below_drewN | apply below_drew1) | exact HB.out)⟩
                · rw [if_neg c39] at H
                  have c39b0 : ((t118.length : Int) == 0) = false := beq_eq_false_iff_ne.mpr c39
                  have c39b1 : ((t118.length : Int) != 0) = true := bne_iff_ne.mpr c39
                  have c39b2 : ¬ (t118 = []) := fun h_ => c39 (by rw [h_]; rfl)
                  cases H
            · rw [if_neg c20] at H
              exact absurd H (by simp)
/-- THE ONE PURE STATEMENT of rubricklaw09_PostBack: yours. -/
def rubricklaw09_PostBack.Pure : Prop := ∀ (l0 : List Int) (l1 : List Int), l0.length ≤ maxLen → l0.length * 8 ≤ 140737488351232 → (∀ x ∈ l0, (Lit.int .i64 x).wf = true) → l1.length ≤ maxLen → l1.length * 1 ≤ 140737488351232 → (∀ x ∈ l1, (Lit.int .u8 x).wf = true) → ∃ k, rubricklaw09_PostBack.f k l0 l1 = some true
theorem rubricklaw09_PostBack.walk (P : rubricklaw09_PostBack.Pure) (a0 : Option Addr) (len0 cap0 : Nat) (z0 : List Int) (a1 : Option Addr) (len1 cap1 : Nat) (z1 : List Int) (w : World) (w0 : (a0 = none ∧ len0 = 0 ∧ cap0 = 0 ∧ z0 = []) ∨ ∃ x, a0 = some x ∧ len0 ≤ cap0 ∧ cap0 ≤ maxLen ∧ z0.length = cap0 ∧ (∀ i, i < z0.length → w.cell? (x.add i) = some (.int .i64 (z0.getD i 0))) ∧ ∀ n ∈ z0, (Lit.int .i64 n).wf = true) (y0 : len0 * 8 ≤ 140737488351232) (w1 : (a1 = none ∧ len1 = 0 ∧ cap1 = 0 ∧ z1 = []) ∨ ∃ x, a1 = some x ∧ len1 ≤ cap1 ∧ cap1 ≤ maxLen ∧ z1.length = cap1 ∧ (∀ i, i < z1.length → w.cell? (x.add i) = some (.int .u8 (z1.getD i 0))) ∧ ∀ n ∈ z1, (Lit.int .u8 n).wf = true) (y1 : len1 * 1 ≤ 140737488351232) :
    Calls Try.prog 3 #[.slice a0 len0 cap0, .slice a1 len1 cap1] w fun e w' => e = .returned (.bool true) ∧ Below w.heap.size w w' := by
  obtain ⟨l0, rfl, hr0, hm0, hw0, hc0⟩ := ReadsInt.ofRowC w0
  obtain ⟨l1, rfl, hr1, hm1, hw1, hc1⟩ := ReadsInt.ofRowC w1
  obtain ⟨k, h⟩ := P l0 l1 hm0 y0 hw0 hm1 y1 hw1
  refine (rubricklaw09_PostBack.calls k _ _ l0 _ _ l1 true w (Kd.C_of_reads (d := (0 : Int)) (h1 := fun _ => rfl) hr0) hc0 (Kd.C_of_reads (d := (0 : Int)) (h1 := fun _ => rfl) hr1) hc1 h rfl).mono ?_
  rintro e w' ⟨rfl, hd⟩
  exact ⟨rfl, hd⟩
end Go.Proofs.Ytgcfhgkhokljcaa.PPostBack

import Derived.Test.YtpmefpdafkbphaaDoorZrHZ
import Derived.Test.YtpmefpdafkbphaaDoorZrHBulk
import Derived.Test.YtpmefpdafkbphaaDoorZrPR0
-- PRINTED by print.py (a twelfth state) out of the translation. Not trusted: Lean checks it.
namespace Go.Proofs.YtpmefpdafkbphaaDoor.PR
open Go.Proofs.YtpmefpdafkbphaaDoor.HZ Go.RowKit Go.Proofs.YtpmefpdafkbphaaDoor Go.Proofs.YtpmefpdafkbphaaDoor.HSha Go.Proofs.YtpmefpdafkbphaaDoorW.PrintWords Go.Proofs.YtpmefpdafkbphaaDoorW.PrintLast Go.Proofs.YtpmefpdafkbphaaDoorW.PrintMore
attribute [local go_sem] max2_int min2_int max_two min_two max_three min_three max_four min_four   -- for this text's walks alone
set_option linter.unusedVariables false
set_option linter.unusedSimpArgs false
/-! ### rubrickref01_block: function 85 -/
def rubrickref01_block.l0 : Nat → List Int → List Int → List Int → Int → Int → Int → Int → Int → Int → Int → Int → Int → Option (List Int)
 | 0, _, _, _, _, _, _, _, _, _, _, _, _ => none
 | k + 1, x0, x5, x6, x7, x8, x9, x10, x11, x12, x13, x14, x15 => if x15 < 64 then ((rubrickref01_right.f x11 6).bind fun t172 => ((rubrickref01_right.f x11 11).bind fun t173 => ((rubrickref01_right.f x11 25).bind fun t174 => (if 0 ≤ x15 then (if x15 < (x6.length : Int) then (if x15 < (x5.length : Int) then ((rubrickref01_right.f x7 2).bind fun t177 => ((rubrickref01_right.f x7 13).bind fun t178 => ((rubrickref01_right.f x7 22).bind fun t179 => (rubrickref01_block.l0 k x0 x5 x6 ((((((((((x14 + (Go.bits .xor .u32 (Go.bits .xor .u32 t172 t173) t174)) % 4294967296) + (Go.bits .xor .u32 (Go.bits .and .u32 x11 x12) (Go.bits .and .u32 (Go.bits .xor .u32 4294967295 x11) x13))) % 4294967296) + (rd x6 x15)) % 4294967296) + (rd x5 x15)) % 4294967296) + (((Go.bits .xor .u32 (Go.bits .xor .u32 t177 t178) t179) + (Go.bits .xor .u32 (Go.bits .xor .u32 (Go.bits .and .u32 x7 x8) (Go.bits .and .u32 x7 x9)) (Go.bits .and .u32 x8 x9))) % 4294967296)) % 4294967296) x7 x8 x9 ((x10 + ((((((((x14 + (Go.bits .xor .u32 (Go.bits .xor .u32 t172 t173) t174)) % 4294967296) + (Go.bits .xor .u32 (Go.bits .and .u32 x11 x12) (Go.bits .and .u32 (Go.bits .xor .u32 4294967295 x11) x13))) % 4294967296) + (rd x6 x15)) % 4294967296) + (rd x5 x15)) % 4294967296)) % 4294967296) x11 x12 x13 (wrap64 (x15 + 1)))))) else (none)) else (none)) else (none))))) else (if 0 < (x0.length : Int) then (if 1 < (x0.length : Int) then (if 2 < (x0.length : Int) then (if 3 < (x0.length : Int) then (if 4 < (x0.length : Int) then (if 5 < (x0.length : Int) then (if 6 < (x0.length : Int) then (if 7 < (x0.length : Int) then (some (([((rd x0 0) + x7) % 4294967296, ((rd x0 1) + x8) % 4294967296, ((rd x0 2) + x9) % 4294967296, ((rd x0 3) + x10) % 4294967296, ((rd x0 4) + x11) % 4294967296, ((rd x0 5) + x12) % 4294967296, ((rd x0 6) + x13) % 4294967296, ((rd x0 7) + x14) % 4294967296] : List Int))) else (none)) else (none)) else (none)) else (none)) else (none)) else (none)) else (none)) else (none))
def rubrickref01_block.f (k : Nat) (l0 : List Int) (l1 : List Int) : Option (List Int) := (rubrickref01_schedule.f k l1).bind fun t147 => ((rubrickref01_constants.f).bind fun t150 => (if 0 < (l0.length : Int) then (if 1 < (l0.length : Int) then (if 2 < (l0.length : Int) then (if 3 < (l0.length : Int) then (if 4 < (l0.length : Int) then (if 5 < (l0.length : Int) then (if 6 < (l0.length : Int) then (if 7 < (l0.length : Int) then (rubrickref01_block.l0 k l0 t147 t150 (rd l0 0) (rd l0 1) (rd l0 2) (rd l0 3) (rd l0 4) (rd l0 5) (rd l0 6) (rd l0 7) 0) else (none)) else (none)) else (none)) else (none)) else (none)) else (none)) else (none)) else (none)))
theorem rubrickref01_block.mono_l : ∀ k, (∀ y0 y1 y2 y3 y4 y5 y6 y7 y8 y9 y10 y11, LeO (rubrickref01_block.l0 k y0 y1 y2 y3 y4 y5 y6 y7 y8 y9 y10 y11) (rubrickref01_block.l0 (k + 1) y0 y1 y2 y3 y4 y5 y6 y7 y8 y9 y10 y11))
 | 0 => fun _ _ _ _ _ _ _ _ _ _ _ _ r h => by simp [rubrickref01_block.l0] at h
 | k + 1 => by
  have ih0 := rubrickref01_block.mono_l k
  ·intro y0 y1 y2 y3 y4 y5 y6 y7 y8 y9 y10 y11
   unfold rubrickref01_block.l0
   repeat' first
   | (with_reducible exact ih0 _ _ _ _ _ _ _ _ _ _ _ _)
   | (with_reducible exact rubrickref01_schedule.mono _ _)
   | (with_reducible exact LeO.refl _)
   | (with_reducible exact LeO.none _)
   | (with_reducible refine LeO.ite ?_ ?_)
   | (with_reducible refine LeO.bind ?_ (fun _ => ?_))
theorem rubrickref01_block.mono : ∀ a0 a1 k, LeO (rubrickref01_block.f k a0 a1) (rubrickref01_block.f (k + 1) a0 a1) := by
 intro a0 a1 k
 have ih0 := rubrickref01_block.mono_l k
 unfold rubrickref01_block.f
 repeat' first
   | (with_reducible exact ih0 _ _ _ _ _ _ _ _ _ _ _ _)
   | (with_reducible exact rubrickref01_schedule.mono _ _)
   | (with_reducible exact LeO.refl _)
   | (with_reducible exact LeO.none _)
   | (with_reducible refine LeO.ite ?_ ?_)
   | (with_reducible refine LeO.bind ?_ (fun _ => ?_))
def rubrickref01_block.T3 : Bool × List (List Nat × List Nat) := (true, [([], []), ([0], [0]), ([1], [1]), ([], []), ([3], [3]), ([4], [4]), ([], []), ([6], [6]), ([7], [7]), ([], []), ([9], [9]), ([10], [10]), ([], []), ([12], [12]), ([13], [13]), ([], []), ([15], [15]), ([16], [16]), ([], []), ([18], [18]), ([19], [19]), ([], []), ([21], [21]), ([22], [22]), ([2, 0, 1, 2], [2]), ([5, 24, 0, 1, 2, 3, 4, 5, 24], [5]), ([8, 25, 0, 1, 2, 3, 4, 5, 6, 7, 8, 24, 25], [8]), ([11, 26, 0, 1, 2, 3, 4, 5, 6, 7, 8, 9, 10, 11, 24, 25, 26], [11]), ([14, 27, 0, 1, 2, 3, 4, 5, 6, 7, 8, 9, 10, 11, 12, 13, 14, 24, 25, 26, 27], [14]), ([17, 28, 0, 1, 2, 3, 4, 5, 6, 7, 8, 9, 10, 11, 12, 13, 14, 15, 16, 17, 24, 25, 26, 27, 28], [17]), ([20, 29, 0, 1, 2, 3, 4, 5, 6, 7, 8, 9, 10, 11, 12, 13, 14, 15, 16, 17, 18, 19, 20, 24, 25, 26, 27, 28, 29], [20]), ([23, 30, 0, 1, 2, 3, 4, 5, 6, 7, 8, 9, 10, 11, 12, 13, 14, 15, 16, 17, 18, 19, 20, 21, 22, 23, 24, 25, 26, 27, 28, 29, 30], [23])])
def rubrickref01_block.B3 : List Nat := [0, 1, 3, 0, 8, 24, 0, 64, 192, 0, 512, 1536, 0, 4096, 12288, 0, 32768, 98304, 0, 262144, 786432, 0, 2097152, 6291456, 7, 16777279, 50332159, 117444607, 251691007, 520355839, 1059061759, 2147483647]
theorem rubrickref01_block.tab3 : rtab .any (opsOf Tryd.f85 3) = rubrickref01_block.T3 := by kernel_rfl
theorem rubrickref01_block.bits3 : waitsOk rubrickref01_block.T3.2 rubrickref01_block.B3 = true := by kernel_rfl
def rubrickref01_block.T8 : Bool × List (List Nat × List Nat) := (true, [([], []), ([], []), ([1], [1]), ([], []), ([3, 2], [3]), ([2, 4], [2, 4]), ([], []), ([6, 4], [6]), ([5, 7], [5, 7]), ([0, 8], [0, 8]), ([], []), ([9, 10], [9, 10]), ([], []), ([], []), ([12, 13], [12, 13]), ([14], [14]), ([11, 15], [11, 15]), ([], []), ([], []), ([17, 18], [17, 18]), ([19], [19]), ([16, 20], [16, 20]), ([21, 7, 0, 1, 2, 3, 4, 5, 6, 7, 8, 9, 10, 11, 12, 13, 14, 15, 16, 17, 18, 19, 20, 21], [21])])
def rubrickref01_block.B8 : List Nat := [0, 0, 2, 0, 14, 30, 0, 94, 254, 511, 0, 2047, 0, 0, 12288, 28672, 65535, 0, 0, 393216, 917504, 2097151, 4194303]
theorem rubrickref01_block.tab8 : rtab .any (opsOf Tryd.f85 8) = rubrickref01_block.T8 := by kernel_rfl
theorem rubrickref01_block.bits8 : waitsOk rubrickref01_block.T8.2 rubrickref01_block.B8 = true := by kernel_rfl
def rubrickref01_block.T18 : Bool × List (List Nat × List Nat) := (true, [([], []), ([0], [0]), ([1], [1]), ([], []), ([2, 3], [2, 3]), ([], []), ([5], [5]), ([6], [6]), ([], []), ([7, 8], [7, 8]), ([], []), ([10], [10]), ([11], [11]), ([], []), ([12, 13], [12, 13]), ([], []), ([15], [15]), ([16], [16]), ([], []), ([17, 18], [17, 18]), ([], []), ([20], [20]), ([21], [21]), ([], []), ([22, 23], [22, 23]), ([], []), ([25], [25]), ([26], [26]), ([], []), ([27, 28], [27, 28]), ([], []), ([30], [30]), ([31], [31]), ([], []), ([32, 33], [32, 33]), ([], []), ([35], [35]), ([36], [36]), ([], []), ([37, 38], [37, 38]), ([4, 9, 14, 19, 24, 29, 34, 39], [4, 9, 14, 19, 24, 29, 34, 39]), ([40, 0, 1, 2, 3, 4, 5, 6, 7, 8, 9, 10, 11, 12, 13, 14, 15, 16, 17, 18, 19, 20, 21, 22, 23, 24, 25, 26, 27, 28, 29, 30, 31, 32, 33, 34, 35, 36, 37, 38, 39, 40], [40])])
def rubrickref01_block.B18 : List Nat := [0, 1, 3, 0, 15, 0, 32, 96, 0, 480, 0, 1024, 3072, 0, 15360, 0, 32768, 98304, 0, 491520, 0, 1048576, 3145728, 0, 15728640, 0, 33554432, 100663296, 0, 503316480, 0, 1073741824, 3221225472, 0, 16106127360, 0, 34359738368, 103079215104, 0, 515396075520, 1099511627775, 2199023255551]
theorem rubrickref01_block.tab18 : rtab .any (opsOf Tryd.f85 18) = rubrickref01_block.T18 := by kernel_rfl
theorem rubrickref01_block.bits18 : waitsOk rubrickref01_block.T18.2 rubrickref01_block.B18 = true := by kernel_rfl
set_option maxHeartbeats 8000000 in
set_option maxRecDepth 100000 in
theorem rubrickref01_block.calls (k : Nat) (A0 : Option Addr) (c0 : Nat) (l0 : List Int) (A1 : Option Addr) (c1 : Nat) (l1 : List Int) (r : List Int) (w : World) (hr0 : Kd.C (Kd.int .u32) w A0 l0.length l0) (hc0 : l0.length ≤ c0) (hr1 : Kd.C (Kd.int .u8) w A1 l1.length l1) (hc1 : l1.length ≤ c1) (h : rubrickref01_block.f k l0 l1 = some r) :
  Calls Tryd.prog 85 #[.slice A0 l0.length c0, .slice A1 l1.length c1] w fun e w' => ∃ v0_ : Value, e = .returned (v0_) ∧ Kd.R (Kd.int .u32) 100 w' w.heap.size (fun _ => True) v0_ r ∧ Below w.heap.size w w' := by
 have HR0 := Aside0.mk hr0
 have HC0 := Aside0.mk hc0
 clear hr0 hc0
 have HR1 := Aside0.mk hr1
 have HC1 := Aside0.mk hc1
 clear hr1 hc1
 have HB := Aside0.mk (Below.refl w.heap.size w)
 have H : ((rubrickref01_schedule.f k l1).bind fun t147 => ((rubrickref01_constants.f).bind fun t150 => (if 0 < (l0.length : Int) then (if 1 < (l0.length : Int) then (if 2 < (l0.length : Int) then (if 3 < (l0.length : Int) then (if 4 < (l0.length : Int) then (if 5 < (l0.length : Int) then (if 6 < (l0.length : Int) then (if 7 < (l0.length : Int) then (rubrickref01_block.l0 k l0 t147 t150 (rd l0 0) (rd l0 1) (rd l0 2) (rd l0 3) (rd l0 4) (rd l0 5) (rd l0 6) (rd l0 7) 0) else (none)) else (none)) else (none)) else (none)) else (none)) else (none)) else (none)) else (none)))) = some r := h
 clear h
 replace H := Option.bind_eq_some_iff.mp H
 obtain ⟨t147, A30, H⟩ := H
 replace H : ((rubrickref01_constants.f).bind fun t150 => (if 0 < (l0.length : Int) then (if 1 < (l0.length : Int) then (if 2 < (l0.length : Int) then (if 3 < (l0.length : Int) then (if 4 < (l0.length : Int) then (if 5 < (l0.length : Int) then (if 6 < (l0.length : Int) then (if 7 < (l0.length : Int) then (rubrickref01_block.l0 k l0 t147 t150 (rd l0 0) (rd l0 1) (rd l0 2) (rd l0 3) (rd l0 4) (rd l0 5) (rd l0 6) (rd l0 7) 0) else (none)) else (none)) else (none)) else (none)) else (none)) else (none)) else (none)) else (none))) = some r := H
 have A3 := Aside0.mk A30
 clear A30
 replace H := Option.bind_eq_some_iff.mp H
 obtain ⟨t150, A40, H⟩ := H
 replace H : (if 0 < (l0.length : Int) then (if 1 < (l0.length : Int) then (if 2 < (l0.length : Int) then (if 3 < (l0.length : Int) then (if 4 < (l0.length : Int) then (if 5 < (l0.length : Int) then (if 6 < (l0.length : Int) then (if 7 < (l0.length : Int) then (rubrickref01_block.l0 k l0 t147 t150 (rd l0 0) (rd l0 1) (rd l0 2) (rd l0 3) (rd l0 4) (rd l0 5) (rd l0 6) (rd l0 7) 0) else (none)) else (none)) else (none)) else (none)) else (none)) else (none)) else (none)) else (none)) = some r := H
 have A4 := Aside0.mk A40
 clear A40
 by_cases c5 : 0 < (l0.length : Int)
 ·rw [if_pos c5] at H
  have c5b0 : decide (0 < (l0.length : Int)) = true := decide_eq_true c5
  have c5b1 : decide (0 < l0.length) = true := decide_eq_true (by omega)
  clear c5
  by_cases c6 : 1 < (l0.length : Int)
  ·rw [if_pos c6] at H
   have c6b0 : decide (1 < (l0.length : Int)) = true := decide_eq_true c6
   have c6b1 : decide (1 < l0.length) = true := decide_eq_true (by omega)
   clear c6
   by_cases c7 : 2 < (l0.length : Int)
   ·rw [if_pos c7] at H
    have c7b0 : decide (2 < (l0.length : Int)) = true := decide_eq_true c7
    have c7b1 : decide (2 < l0.length) = true := decide_eq_true (by omega)
    clear c7
    by_cases c8 : 3 < (l0.length : Int)
    ·rw [if_pos c8] at H
     have c8b0 : decide (3 < (l0.length : Int)) = true := decide_eq_true c8
     have c8b1 : decide (3 < l0.length) = true := decide_eq_true (by omega)
     clear c8
     by_cases c9 : 4 < (l0.length : Int)
     ·rw [if_pos c9] at H
      have c9b0 : decide (4 < (l0.length : Int)) = true := decide_eq_true c9
      have c9b1 : decide (4 < l0.length) = true := decide_eq_true (by omega)
      clear c9
      by_cases c10 : 5 < (l0.length : Int)
      ·rw [if_pos c10] at H
       have c10b0 : decide (5 < (l0.length : Int)) = true := decide_eq_true c10
       have c10b1 : decide (5 < l0.length) = true := decide_eq_true (by omega)
       clear c10
       by_cases c11 : 6 < (l0.length : Int)
       ·rw [if_pos c11] at H
        have c11b0 : decide (6 < (l0.length : Int)) = true := decide_eq_true c11
        have c11b1 : decide (6 < l0.length) = true := decide_eq_true (by omega)
        clear c11
        by_cases c12 : 7 < (l0.length : Int)
        ·rw [if_pos c12] at H
         have c12b0 : decide (7 < (l0.length : Int)) = true := decide_eq_true c12
         have c12b1 : decide (7 < l0.length) = true := decide_eq_true (by omega)
         clear c12
         have H' := Aside0.mk H
         clear H
         go_enter Tryd.func85, Tryd.ntmps85
         try go_wp2_with (first | ((with_reducible refine gate_callee (f := 92) rfl ?_); refine goesL_ (some 20) rfl rfl Tryd.func92 (by kernel_rfl) rfl #[.slice A1 l1.length c1] rfl zm ?_; (with_reducible refine (rubrickref01_schedule.calls k _ _ l1 t147 _ ?side1 ?side2 A3.out).mono ?_); (case side1 => repeat (first | exact HR1.out | (with_reducible refine Kd.C_alloc ?_ _) | (with_reducible refine Kd.C_drewN ?_ _) | (with_reducible refine Kd.C_drew ?_))); (case side2 => exact HC1.out); rintro e w13 ⟨v148, rfl, ho0, hb⟩; refine ⟨_, rfl, ?_⟩; have n0_ := zL ho0 HB; have n1_ := zS HB hb; clear HB; have HO149 := n0_; have HB := n1_; clear n0_ n1_; (try clear hb); (try clear hb2); (try clear hk); (try clear hi); (try clear ho0)) | ((with_reducible refine gate_callee (f := 93) rfl ?_); refine goesL_ (some 21) rfl rfl Tryd.func93 (by kernel_rfl) rfl #[] rfl zm ?_; (with_reducible refine (rubrickref01_constants.calls  t150 _ A4.out).mono ?_); rintro e w14 ⟨v151, rfl, ho0, hb⟩; refine ⟨_, rfl, ?_⟩; have n0_ := Aside0.mk (Kd.R_elder' (zr HO149.out) (Kd.R_base ho0) hb); have n1_ := Aside0.mk (Kd.R_lower (Kd.R_new' ho0 (Kd.R_lt (zr HO149.out))) (below_size (zb HB.out))); have n2_ := zS HB hb; clear HO149; clear HB; have HO149 := n0_; have HO152 := n1_; have HB := n2_; clear n0_ n1_ n2_; (try clear hb); (try clear hb2); (try clear hk); (try clear hi); (try clear ho0)))
         have n0_ := Aside0.mk (Kd.R_drew HO149.out)
         have n1_ := Aside0.mk (Kd.R_drew HO152.out)
         have n2_ := Aside0.mk (below_drew1 HB.out)
         clear HO149
         clear HO152
         clear HB
         have HO149 := n0_
         have HO152 := n1_
         have HB := n2_
         clear n0_ n1_ n2_
         have p153 : 0 ≤ (0 : Int) := (by omega)
         have q153 : 0 < (l0.length : Int) := of_decide_eq_true (by first | (with_reducible assumption) | assumption)
         obtain ⟨ad153, e153, hx153_0⟩ := Kd.at_int HR0.out 0 p153 q153
         have hw153_0 := hx153_0
         (try rw [show ((0 : Int)).toNat = 0 from rfl] at hw153_0)
         (try rw [show 0 * 1 = 0 from rfl] at hw153_0)
         (try rw [Addr.add_zero'] at hw153_0)
         cases e153
         have qi153 : (0 < l0.length) = True := eq_true (by omega)
         (try rw [show ((0 : Int)).toNat = 0 from rfl] at hx153_0)
         (try rw [Addr.add_zero'] at hx153_0)
         replace hx153_0 := (HB.out.cell (World.block_lt_of_cell? w _ hx153_0)).trans hx153_0
         replace p153 := eq_true p153
         replace q153 := eq_true q153
         have p154 : 0 ≤ (1 : Int) := (by omega)
         have q154 : 1 < (l0.length : Int) := of_decide_eq_true (by first | (with_reducible assumption) | assumption)
         obtain ⟨ad154, e154, hx154_0⟩ := Kd.at_int HR0.out 1 p154 q154
         have hw154_0 := hx154_0
         (try rw [show ((1 : Int)).toNat = 1 from rfl] at hw154_0)
         (try rw [show 1 * 1 = 1 from rfl] at hw154_0)
         (try simp only [Nat.reduceMul, Nat.reduceEqDiff, Go.Addr.add, ↓reduceIte] at hw154_0)
         obtain rfl : ad153 = ad154 := (by injection e154)
         (try simp only [show (1 : Int).toNat = 1 from rfl, Nat.reduceMul, Nat.reduceEqDiff, Go.Addr.add, ↓reduceIte] at hx154_0)
         have qi154 : (1 < l0.length) = True := eq_true (by omega)
         (try rw [show ((1 : Int)).toNat = 1 from rfl] at hx154_0)
         replace hx154_0 := (HB.out.cell (World.block_lt_of_cell? w _ hx154_0)).trans hx154_0
         replace p154 := eq_true p154
         replace q154 := eq_true q154
         have p155 : 0 ≤ (2 : Int) := (by omega)
         have q155 : 2 < (l0.length : Int) := of_decide_eq_true (by first | (with_reducible assumption) | assumption)
         obtain ⟨ad155, e155, hx155_0⟩ := Kd.at_int HR0.out 2 p155 q155
         have hw155_0 := hx155_0
         (try rw [show ((2 : Int)).toNat = 2 from rfl] at hw155_0)
         (try rw [show 2 * 1 = 2 from rfl] at hw155_0)
         (try simp only [Nat.reduceMul, Nat.reduceEqDiff, Go.Addr.add, ↓reduceIte] at hw155_0)
         obtain rfl : ad153 = ad155 := (by injection e155)
         (try simp only [show (2 : Int).toNat = 2 from rfl, Nat.reduceMul, Nat.reduceEqDiff, Go.Addr.add, ↓reduceIte] at hx155_0)
         have qi155 : (2 < l0.length) = True := eq_true (by omega)
         (try rw [show ((2 : Int)).toNat = 2 from rfl] at hx155_0)
         replace hx155_0 := (HB.out.cell (World.block_lt_of_cell? w _ hx155_0)).trans hx155_0
         replace p155 := eq_true p155
         replace q155 := eq_true q155
         have p156 : 0 ≤ (3 : Int) := (by omega)
         have q156 : 3 < (l0.length : Int) := of_decide_eq_true (by first | (with_reducible assumption) | assumption)
         obtain ⟨ad156, e156, hx156_0⟩ := Kd.at_int HR0.out 3 p156 q156
         have hw156_0 := hx156_0
         (try rw [show ((3 : Int)).toNat = 3 from rfl] at hw156_0)
         (try rw [show 3 * 1 = 3 from rfl] at hw156_0)
         (try simp only [Nat.reduceMul, Nat.reduceEqDiff, Go.Addr.add, ↓reduceIte] at hw156_0)
         obtain rfl : ad153 = ad156 := (by injection e156)
         (try simp only [show (3 : Int).toNat = 3 from rfl, Nat.reduceMul, Nat.reduceEqDiff, Go.Addr.add, ↓reduceIte] at hx156_0)
         have qi156 : (3 < l0.length) = True := eq_true (by omega)
         (try rw [show ((3 : Int)).toNat = 3 from rfl] at hx156_0)
         replace hx156_0 := (HB.out.cell (World.block_lt_of_cell? w _ hx156_0)).trans hx156_0
         replace p156 := eq_true p156
         replace q156 := eq_true q156
         have p157 : 0 ≤ (4 : Int) := (by omega)
         have q157 : 4 < (l0.length : Int) := of_decide_eq_true (by first | (with_reducible assumption) | assumption)
         obtain ⟨ad157, e157, hx157_0⟩ := Kd.at_int HR0.out 4 p157 q157
         have hw157_0 := hx157_0
         (try rw [show ((4 : Int)).toNat = 4 from rfl] at hw157_0)
         (try rw [show 4 * 1 = 4 from rfl] at hw157_0)
         (try simp only [Nat.reduceMul, Nat.reduceEqDiff, Go.Addr.add, ↓reduceIte] at hw157_0)
         obtain rfl : ad153 = ad157 := (by injection e157)
         (try simp only [show (4 : Int).toNat = 4 from rfl, Nat.reduceMul, Nat.reduceEqDiff, Go.Addr.add, ↓reduceIte] at hx157_0)
         have qi157 : (4 < l0.length) = True := eq_true (by omega)
         (try rw [show ((4 : Int)).toNat = 4 from rfl] at hx157_0)
         replace hx157_0 := (HB.out.cell (World.block_lt_of_cell? w _ hx157_0)).trans hx157_0
         replace p157 := eq_true p157
         replace q157 := eq_true q157
         have p158 : 0 ≤ (5 : Int) := (by omega)
         have q158 : 5 < (l0.length : Int) := of_decide_eq_true (by first | (with_reducible assumption) | assumption)
         obtain ⟨ad158, e158, hx158_0⟩ := Kd.at_int HR0.out 5 p158 q158
         have hw158_0 := hx158_0
         (try rw [show ((5 : Int)).toNat = 5 from rfl] at hw158_0)
         (try rw [show 5 * 1 = 5 from rfl] at hw158_0)
         (try simp only [Nat.reduceMul, Nat.reduceEqDiff, Go.Addr.add, ↓reduceIte] at hw158_0)
         obtain rfl : ad153 = ad158 := (by injection e158)
         (try simp only [show (5 : Int).toNat = 5 from rfl, Nat.reduceMul, Nat.reduceEqDiff, Go.Addr.add, ↓reduceIte] at hx158_0)
         have qi158 : (5 < l0.length) = True := eq_true (by omega)
         (try rw [show ((5 : Int)).toNat = 5 from rfl] at hx158_0)
         replace hx158_0 := (HB.out.cell (World.block_lt_of_cell? w _ hx158_0)).trans hx158_0
         replace p158 := eq_true p158
         replace q158 := eq_true q158
         have p159 : 0 ≤ (6 : Int) := (by omega)
         have q159 : 6 < (l0.length : Int) := of_decide_eq_true (by first | (with_reducible assumption) | assumption)
         obtain ⟨ad159, e159, hx159_0⟩ := Kd.at_int HR0.out 6 p159 q159
         have hw159_0 := hx159_0
         (try rw [show ((6 : Int)).toNat = 6 from rfl] at hw159_0)
         (try rw [show 6 * 1 = 6 from rfl] at hw159_0)
         (try simp only [Nat.reduceMul, Nat.reduceEqDiff, Go.Addr.add, ↓reduceIte] at hw159_0)
         obtain rfl : ad153 = ad159 := (by injection e159)
         (try simp only [show (6 : Int).toNat = 6 from rfl, Nat.reduceMul, Nat.reduceEqDiff, Go.Addr.add, ↓reduceIte] at hx159_0)
         have qi159 : (6 < l0.length) = True := eq_true (by omega)
         (try rw [show ((6 : Int)).toNat = 6 from rfl] at hx159_0)
         replace hx159_0 := (HB.out.cell (World.block_lt_of_cell? w _ hx159_0)).trans hx159_0
         replace p159 := eq_true p159
         replace q159 := eq_true q159
         have p160 : 0 ≤ (7 : Int) := (by omega)
         have q160 : 7 < (l0.length : Int) := of_decide_eq_true (by first | (with_reducible assumption) | assumption)
         obtain ⟨ad160, e160, hx160_0⟩ := Kd.at_int HR0.out 7 p160 q160
         have hw160_0 := hx160_0
         (try rw [show ((7 : Int)).toNat = 7 from rfl] at hw160_0)
         (try rw [show 7 * 1 = 7 from rfl] at hw160_0)
         (try simp only [Nat.reduceMul, Nat.reduceEqDiff, Go.Addr.add, ↓reduceIte] at hw160_0)
         obtain rfl : ad153 = ad160 := (by injection e160)
         (try simp only [show (7 : Int).toNat = 7 from rfl, Nat.reduceMul, Nat.reduceEqDiff, Go.Addr.add, ↓reduceIte] at hx160_0)
         have qi160 : (7 < l0.length) = True := eq_true (by omega)
         (try rw [show ((7 : Int)).toNat = 7 from rfl] at hx160_0)
         replace hx160_0 := (HB.out.cell (World.block_lt_of_cell? w _ hx160_0)).trans hx160_0
         replace p160 := eq_true p160
         replace q160 := eq_true q160
         refine start_ (n := 32) (S := fun w' => w'.cell? ad153 = some (.int .u32 (rd l0 0)) ∧ w'.cell? ⟨ad153.block, ad153.off + 1, none⟩ = some (.int .u32 (rd l0 1)) ∧ w'.cell? ⟨ad153.block, ad153.off + 2, none⟩ = some (.int .u32 (rd l0 2)) ∧ w'.cell? ⟨ad153.block, ad153.off + 3, none⟩ = some (.int .u32 (rd l0 3)) ∧ w'.cell? ⟨ad153.block, ad153.off + 4, none⟩ = some (.int .u32 (rd l0 4)) ∧ w'.cell? ⟨ad153.block, ad153.off + 5, none⟩ = some (.int .u32 (rd l0 5)) ∧ w'.cell? ⟨ad153.block, ad153.off + 6, none⟩ = some (.int .u32 (rd l0 6)) ∧ w'.cell? ⟨ad153.block, ad153.off + 7, none⟩ = some (.int .u32 (rd l0 7))) (ds := []) #[false, false, false, false, false, false, false, false, false, false, false, false, false, false, false, false, false, false, false, false, false, false, false, false, false, false, false, false, false, false, false, false] (by kernel_rfl) rfl rfl ⟨((HB.out.cell (World.block_lt_of_cell? w _ hw153_0)).trans hw153_0), ((HB.out.cell (World.block_lt_of_cell? w _ hw154_0)).trans hw154_0), ((HB.out.cell (World.block_lt_of_cell? w _ hw155_0)).trans hw155_0), ((HB.out.cell (World.block_lt_of_cell? w _ hw156_0)).trans hw156_0), ((HB.out.cell (World.block_lt_of_cell? w _ hw157_0)).trans hw157_0), ((HB.out.cell (World.block_lt_of_cell? w _ hw158_0)).trans hw158_0), ((HB.out.cell (World.block_lt_of_cell? w _ hw159_0)).trans hw159_0), ((HB.out.cell (World.block_lt_of_cell? w _ hw160_0)).trans hw160_0)⟩ (fun hHeld => ?_); refine with_tabW rubrickref01_block.tab3 rubrickref01_block.bits3 (fun HT_ HW_ => ?_)
         generalize w14.drew = w15 at HO149 HO152 HB hx153_0 hx154_0 hx155_0 hx156_0 hx157_0 hx158_0 hx159_0 hx160_0 hHeld ⊢
         refine HBulk.bulkT (fuel := 0) HT_.out HW_.out [(0, some 22, false), (1, some 23, false), (3, some 25, false), (4, some 26, false), (6, some 28, false), (7, some 29, false), (9, some 31, false), (10, some 32, false), (12, some 34, false), (13, some 35, false), (15, some 37, false), (16, some 38, false), (18, some 40, false), (19, some 41, false), (21, some 43, false), (22, some 44, false), (2, some 24, true), (24, some 7, false), (5, some 27, true), (25, some 8, false), (8, some 30, true), (26, some 9, false), (11, some 33, true), (27, some 10, false), (14, some 36, true), (28, some 11, false), (17, some 39, true), (29, some 12, false), (20, some 42, true), (30, some 13, false), (23, some 45, true), (31, some 14, false)] #[true, true, true, true, true, true, true, true, true, true, true, true, true, true, true, true, true, true, true, true, true, true, true, true, true, true, true, true, true, true, true, true] (a' := ?_) (by kernel_rfl) rfl hHeld ?_ ?_
         rotate_left
         ·repeat
           refine HBulk.RunsM.cons (v := ?_) (a1 := ?_) rfl rfl (fun _ _ _ h => h) (by rfl) ?_ ?_ ?_
           rotate_left
           ·intro w' hS_; (try (obtain ⟨s0, s1, s2, s3, s4, s5, s6, s7⟩ := hS_ rfl))
            go_simp
            with_reducible rfl
           rotate_left
           ·simp only [Act.put, List.setIfInBounds_toArray, List.set_cons_zero, List.set_cons_succ, i64_w, i32_w]
            rfl
          exact HBulk.RunsM.nil
         refine done_ (done_of HT_.out (by kernel_rfl)) ?_
         try go_wp2
         go_loopg [7, 8, 9, 10, 11, 12, 13, 14, 15] k (fun kq v7 v8 v9 v10 v11 v12 v13 v14 v15 w' => ∃ (x7_1 : Int) (x8_1 : Int) (x9_1 : Int) (x10_1 : Int) (x11_1 : Int) (x12_1 : Int) (x13_1 : Int) (x14_1 : Int) (x15_1 : Int), v7 = .int .u32 x7_1 ∧ v8 = .int .u32 x8_1 ∧ v9 = .int .u32 x9_1 ∧ v10 = .int .u32 x10_1 ∧ v11 = .int .u32 x11_1 ∧ v12 = .int .u32 x12_1 ∧ v13 = .int .u32 x13_1 ∧ v14 = .int .u32 x14_1 ∧ v15 = .int .i64 x15_1 ∧ Aside0 (rubrickref01_block.l0 kq l0 t147 t150 x7_1 x8_1 x9_1 x10_1 x11_1 x12_1 x13_1 x14_1 x15_1 = some r) ∧ Aside0 (kq ≤ k) ∧ Aside0 (Kd.R (Kd.int .u32) 100 w' w.heap.size (fun k_ => some k_ ≠ (v151 : Value).ownBlock) v148 t147) ∧ Aside0 (Kd.R (Kd.int .u32) 100 w' w.heap.size (fun k_ => some k_ ≠ (v148 : Value).ownBlock) v151 t150) ∧ Aside0 (Below w.heap.size w w'))
         case atStart => exact ⟨(rd l0 0), (rd l0 1), (rd l0 2), (rd l0 3), (rd l0 4), (rd l0 5), (rd l0 6), (rd l0 7), (0), (by first | rfl | (simp; done) | (simp [*]; done)), (by first | rfl | (simp; done) | (simp [*]; done)), (by first | rfl | (simp; done) | (simp [*]; done)), (by first | rfl | (simp; done) | (simp [*]; done)), (by first | rfl | (simp; done) | (simp [*]; done)), (by first | rfl | (simp; done) | (simp [*]; done)), (by first | rfl | (simp; done) | (simp [*]; done)), (by first | rfl | (simp; done) | (simp [*]; done)), (by first | rfl | (simp; done) | (simp [*]; done)), H', ⟨Nat.le_refl _⟩, ⟨by (with_reducible repeat (first | apply Kd.R_alloc | apply Kd.R_drewN | apply Kd.R_drew)); exact Kd.R_mono HO149.out (fun _ hk => hk.2)⟩, ⟨by (with_reducible repeat (first | apply Kd.R_alloc | apply Kd.R_drewN | apply Kd.R_drew)); exact Kd.R_mono HO152.out (fun _ hk => hk.2)⟩, ⟨zb HB.out⟩⟩
         case round =>
          clear H'
          try clear c1
          try clear p1
          try clear q1
          try clear hx1
          try clear qi1
          try clear p2
          try clear c5
          try clear c5b0
          try clear c5b1
          try clear c6
          try clear c6b0
          try clear c6b1
          try clear c7
          try clear c7b0
          try clear c7b1
          try clear c8
          try clear c8b0
          try clear c8b1
          try clear c9
          try clear c9b0
          try clear c9b1
          try clear c10
          try clear c10b0
          try clear c10b1
          try clear c11
          try clear c11b0
          try clear c11b1
          try clear c12
          try clear c12b0
          try clear c12b1
          try clear p15
          try clear q15
          try clear hx15
          try clear qi15
          try clear hx153_0
          try clear hx154_0
          try clear hx155_0
          try clear hx156_0
          try clear hx157_0
          try clear hx158_0
          try clear hx159_0
          try clear hx160_0
          try clear p153
          try clear p154
          try clear p155
          try clear p156
          try clear p157
          try clear p158
          try clear p159
          try clear p160
          try clear q153
          try clear q154
          try clear q155
          try clear q156
          try clear q157
          try clear q158
          try clear q159
          try clear q160
          obtain ⟨x7_1, x8_1, x9_1, x10_1, x11_1, x12_1, x13_1, x14_1, x15_1, rfl, rfl, rfl, rfl, rfl, rfl, rfl, rfl, rfl, HA, HK1, HO_5, HO_6, HB⟩ := hrel
          cases gk with
          | zero => exact absurd HA.out (by simp [rubrickref01_block.l0])
          | succ k1 =>
           have H := HA.out
           clear HA
           simp only [rubrickref01_block.l0] at H
           by_cases c16 : x15_1 < 64
           ·rw [if_pos c16] at H
            have c16b0 : decide (x15_1 < 64) = true := decide_eq_true c16
            clear c16
            replace H := Option.bind_eq_some_iff.mp H
            obtain ⟨t172, A170, H⟩ := H
            replace H : ((rubrickref01_right.f x11_1 11).bind fun t173 => ((rubrickref01_right.f x11_1 25).bind fun t174 => (if 0 ≤ x15_1 then (if x15_1 < (t150.length : Int) then (if x15_1 < (t147.length : Int) then ((rubrickref01_right.f x7_1 2).bind fun t177 => ((rubrickref01_right.f x7_1 13).bind fun t178 => ((rubrickref01_right.f x7_1 22).bind fun t179 => (rubrickref01_block.l0 k1 l0 t147 t150 ((((((((((x14_1 + (Go.bits .xor .u32 (Go.bits .xor .u32 t172 t173) t174)) % 4294967296) + (Go.bits .xor .u32 (Go.bits .and .u32 x11_1 x12_1) (Go.bits .and .u32 (Go.bits .xor .u32 4294967295 x11_1) x13_1))) % 4294967296) + (rd t150 x15_1)) % 4294967296) + (rd t147 x15_1)) % 4294967296) + (((Go.bits .xor .u32 (Go.bits .xor .u32 t177 t178) t179) + (Go.bits .xor .u32 (Go.bits .xor .u32 (Go.bits .and .u32 x7_1 x8_1) (Go.bits .and .u32 x7_1 x9_1)) (Go.bits .and .u32 x8_1 x9_1))) % 4294967296)) % 4294967296) x7_1 x8_1 x9_1 ((x10_1 + ((((((((x14_1 + (Go.bits .xor .u32 (Go.bits .xor .u32 t172 t173) t174)) % 4294967296) + (Go.bits .xor .u32 (Go.bits .and .u32 x11_1 x12_1) (Go.bits .and .u32 (Go.bits .xor .u32 4294967295 x11_1) x13_1))) % 4294967296) + (rd t150 x15_1)) % 4294967296) + (rd t147 x15_1)) % 4294967296)) % 4294967296) x11_1 x12_1 x13_1 (wrap64 (x15_1 + 1)))))) else (none)) else (none)) else (none)))) = some r := H
            have A17 := Aside0.mk A170
            clear A170
            replace H := Option.bind_eq_some_iff.mp H
            obtain ⟨t173, A180, H⟩ := H
            replace H : ((rubrickref01_right.f x11_1 25).bind fun t174 => (if 0 ≤ x15_1 then (if x15_1 < (t150.length : Int) then (if x15_1 < (t147.length : Int) then ((rubrickref01_right.f x7_1 2).bind fun t177 => ((rubrickref01_right.f x7_1 13).bind fun t178 => ((rubrickref01_right.f x7_1 22).bind fun t179 => (rubrickref01_block.l0 k1 l0 t147 t150 ((((((((((x14_1 + (Go.bits .xor .u32 (Go.bits .xor .u32 t172 t173) t174)) % 4294967296) + (Go.bits .xor .u32 (Go.bits .and .u32 x11_1 x12_1) (Go.bits .and .u32 (Go.bits .xor .u32 4294967295 x11_1) x13_1))) % 4294967296) + (rd t150 x15_1)) % 4294967296) + (rd t147 x15_1)) % 4294967296) + (((Go.bits .xor .u32 (Go.bits .xor .u32 t177 t178) t179) + (Go.bits .xor .u32 (Go.bits .xor .u32 (Go.bits .and .u32 x7_1 x8_1) (Go.bits .and .u32 x7_1 x9_1)) (Go.bits .and .u32 x8_1 x9_1))) % 4294967296)) % 4294967296) x7_1 x8_1 x9_1 ((x10_1 + ((((((((x14_1 + (Go.bits .xor .u32 (Go.bits .xor .u32 t172 t173) t174)) % 4294967296) + (Go.bits .xor .u32 (Go.bits .and .u32 x11_1 x12_1) (Go.bits .and .u32 (Go.bits .xor .u32 4294967295 x11_1) x13_1))) % 4294967296) + (rd t150 x15_1)) % 4294967296) + (rd t147 x15_1)) % 4294967296)) % 4294967296) x11_1 x12_1 x13_1 (wrap64 (x15_1 + 1)))))) else (none)) else (none)) else (none))) = some r := H
            have A18 := Aside0.mk A180
            clear A180
            replace H := Option.bind_eq_some_iff.mp H
            obtain ⟨t174, A190, H⟩ := H
            replace H : (if 0 ≤ x15_1 then (if x15_1 < (t150.length : Int) then (if x15_1 < (t147.length : Int) then ((rubrickref01_right.f x7_1 2).bind fun t177 => ((rubrickref01_right.f x7_1 13).bind fun t178 => ((rubrickref01_right.f x7_1 22).bind fun t179 => (rubrickref01_block.l0 k1 l0 t147 t150 ((((((((((x14_1 + (Go.bits .xor .u32 (Go.bits .xor .u32 t172 t173) t174)) % 4294967296) + (Go.bits .xor .u32 (Go.bits .and .u32 x11_1 x12_1) (Go.bits .and .u32 (Go.bits .xor .u32 4294967295 x11_1) x13_1))) % 4294967296) + (rd t150 x15_1)) % 4294967296) + (rd t147 x15_1)) % 4294967296) + (((Go.bits .xor .u32 (Go.bits .xor .u32 t177 t178) t179) + (Go.bits .xor .u32 (Go.bits .xor .u32 (Go.bits .and .u32 x7_1 x8_1) (Go.bits .and .u32 x7_1 x9_1)) (Go.bits .and .u32 x8_1 x9_1))) % 4294967296)) % 4294967296) x7_1 x8_1 x9_1 ((x10_1 + ((((((((x14_1 + (Go.bits .xor .u32 (Go.bits .xor .u32 t172 t173) t174)) % 4294967296) + (Go.bits .xor .u32 (Go.bits .and .u32 x11_1 x12_1) (Go.bits .and .u32 (Go.bits .xor .u32 4294967295 x11_1) x13_1))) % 4294967296) + (rd t150 x15_1)) % 4294967296) + (rd t147 x15_1)) % 4294967296)) % 4294967296) x11_1 x12_1 x13_1 (wrap64 (x15_1 + 1)))))) else (none)) else (none)) else (none)) = some r := H
            have A19 := Aside0.mk A190
            clear A190
            by_cases c20 : 0 ≤ x15_1
            ·rw [if_pos c20] at H
             have c20b0 : decide (0 ≤ x15_1) = true := decide_eq_true c20
             clear c20
             by_cases c21 : x15_1 < (t150.length : Int)
             ·rw [if_pos c21] at H
              have c21b0 : decide (x15_1 < (t150.length : Int)) = true := decide_eq_true c21
              clear c21
              by_cases c22 : x15_1 < (t147.length : Int)
              ·rw [if_pos c22] at H
               have c22b0 : decide (x15_1 < (t147.length : Int)) = true := decide_eq_true c22
               clear c22
               replace H := Option.bind_eq_some_iff.mp H
               obtain ⟨t177, A230, H⟩ := H
               replace H : ((rubrickref01_right.f x7_1 13).bind fun t178 => ((rubrickref01_right.f x7_1 22).bind fun t179 => (rubrickref01_block.l0 k1 l0 t147 t150 ((((((((((x14_1 + (Go.bits .xor .u32 (Go.bits .xor .u32 t172 t173) t174)) % 4294967296) + (Go.bits .xor .u32 (Go.bits .and .u32 x11_1 x12_1) (Go.bits .and .u32 (Go.bits .xor .u32 4294967295 x11_1) x13_1))) % 4294967296) + (rd t150 x15_1)) % 4294967296) + (rd t147 x15_1)) % 4294967296) + (((Go.bits .xor .u32 (Go.bits .xor .u32 t177 t178) t179) + (Go.bits .xor .u32 (Go.bits .xor .u32 (Go.bits .and .u32 x7_1 x8_1) (Go.bits .and .u32 x7_1 x9_1)) (Go.bits .and .u32 x8_1 x9_1))) % 4294967296)) % 4294967296) x7_1 x8_1 x9_1 ((x10_1 + ((((((((x14_1 + (Go.bits .xor .u32 (Go.bits .xor .u32 t172 t173) t174)) % 4294967296) + (Go.bits .xor .u32 (Go.bits .and .u32 x11_1 x12_1) (Go.bits .and .u32 (Go.bits .xor .u32 4294967295 x11_1) x13_1))) % 4294967296) + (rd t150 x15_1)) % 4294967296) + (rd t147 x15_1)) % 4294967296)) % 4294967296) x11_1 x12_1 x13_1 (wrap64 (x15_1 + 1))))) = some r := H
               have A23 := Aside0.mk A230
               clear A230
               replace H := Option.bind_eq_some_iff.mp H
               obtain ⟨t178, A240, H⟩ := H
               replace H : ((rubrickref01_right.f x7_1 22).bind fun t179 => (rubrickref01_block.l0 k1 l0 t147 t150 ((((((((((x14_1 + (Go.bits .xor .u32 (Go.bits .xor .u32 t172 t173) t174)) % 4294967296) + (Go.bits .xor .u32 (Go.bits .and .u32 x11_1 x12_1) (Go.bits .and .u32 (Go.bits .xor .u32 4294967295 x11_1) x13_1))) % 4294967296) + (rd t150 x15_1)) % 4294967296) + (rd t147 x15_1)) % 4294967296) + (((Go.bits .xor .u32 (Go.bits .xor .u32 t177 t178) t179) + (Go.bits .xor .u32 (Go.bits .xor .u32 (Go.bits .and .u32 x7_1 x8_1) (Go.bits .and .u32 x7_1 x9_1)) (Go.bits .and .u32 x8_1 x9_1))) % 4294967296)) % 4294967296) x7_1 x8_1 x9_1 ((x10_1 + ((((((((x14_1 + (Go.bits .xor .u32 (Go.bits .xor .u32 t172 t173) t174)) % 4294967296) + (Go.bits .xor .u32 (Go.bits .and .u32 x11_1 x12_1) (Go.bits .and .u32 (Go.bits .xor .u32 4294967295 x11_1) x13_1))) % 4294967296) + (rd t150 x15_1)) % 4294967296) + (rd t147 x15_1)) % 4294967296)) % 4294967296) x11_1 x12_1 x13_1 (wrap64 (x15_1 + 1)))) = some r := H
               have A24 := Aside0.mk A240
               clear A240
               replace H := Option.bind_eq_some_iff.mp H
               obtain ⟨t179, A250, H⟩ := H
               replace H : (rubrickref01_block.l0 k1 l0 t147 t150 ((((((((((x14_1 + (Go.bits .xor .u32 (Go.bits .xor .u32 t172 t173) t174)) % 4294967296) + (Go.bits .xor .u32 (Go.bits .and .u32 x11_1 x12_1) (Go.bits .and .u32 (Go.bits .xor .u32 4294967295 x11_1) x13_1))) % 4294967296) + (rd t150 x15_1)) % 4294967296) + (rd t147 x15_1)) % 4294967296) + (((Go.bits .xor .u32 (Go.bits .xor .u32 t177 t178) t179) + (Go.bits .xor .u32 (Go.bits .xor .u32 (Go.bits .and .u32 x7_1 x8_1) (Go.bits .and .u32 x7_1 x9_1)) (Go.bits .and .u32 x8_1 x9_1))) % 4294967296)) % 4294967296) x7_1 x8_1 x9_1 ((x10_1 + ((((((((x14_1 + (Go.bits .xor .u32 (Go.bits .xor .u32 t172 t173) t174)) % 4294967296) + (Go.bits .xor .u32 (Go.bits .and .u32 x11_1 x12_1) (Go.bits .and .u32 (Go.bits .xor .u32 4294967295 x11_1) x13_1))) % 4294967296) + (rd t150 x15_1)) % 4294967296) + (rd t147 x15_1)) % 4294967296)) % 4294967296) x11_1 x12_1 x13_1 (wrap64 (x15_1 + 1))) = some r := H
               have A25 := Aside0.mk A250
               clear A250
               have H' := Aside0.mk H
               clear H
               try go_wp2
               have n0_ := Aside0.mk (Kd.R_drew HO_5.out)
               have n1_ := Aside0.mk (Kd.R_drew HO_6.out)
               have n2_ := Aside0.mk (below_drew1 HB.out)
               clear HO_5
               clear HO_6
               clear HB
               have HO_5 := n0_
               have HO_6 := n1_
               have HB := n2_
               clear n0_ n1_ n2_
               obtain ⟨Ao27, co27, eo27⟩ := Kd.R_slice HO_6.out
               (first | subst eo27 | (injection eo27 with f1_ f2_ f3_; have f4_ := f1_.symm; have f5_ := f3_.symm; clear f1_ f2_ f3_; subst f4_; subst f5_))
               have p175 : 0 ≤ (x15_1 : Int) := of_decide_eq_true (by first | (with_reducible assumption) | assumption)
               have q175 : x15_1 < (t150.length : Int) := of_decide_eq_true (by first | (with_reducible assumption) | assumption)
               obtain ⟨ad175, e175, hx175_0⟩ := Kd.at_int (Kd.R_reads' HO_6.out).2.2 x15_1 p175 q175
               cases e175
               replace p175 := eq_true p175
               replace q175 := eq_true q175
               obtain ⟨Ao28, co28, eo28⟩ := Kd.R_slice HO_5.out
               (first | subst eo28 | (injection eo28 with f1_ f2_ f3_; have f4_ := f1_.symm; have f5_ := f3_.symm; clear f1_ f2_ f3_; subst f4_; subst f5_))
               have p176 : 0 ≤ (x15_1 : Int) := of_decide_eq_true (by first | (with_reducible assumption) | assumption)
               have q176 : x15_1 < (t147.length : Int) := of_decide_eq_true (by first | (with_reducible assumption) | assumption)
               obtain ⟨ad176, e176, hx176_0⟩ := Kd.at_int (Kd.R_reads' HO_5.out).2.2 x15_1 p176 q176
               cases e176
               replace p176 := eq_true p176
               replace q176 := eq_true q176
               refine start_ (n := 23) (S := fun w' => w'.cell? (ad175.add (x15_1).toNat) = some (.int .u32 (rd t150 x15_1)) ∧ w'.cell? (ad176.add (x15_1).toNat) = some (.int .u32 (rd t147 x15_1))) (ds := []) #[false, false, false, false, false, false, false, false, false, false, false, false, false, false, false, false, false, false, false, false, false, false, false] (by kernel_rfl) rfl rfl ⟨hx175_0, hx176_0⟩ (fun hHeld => ?_); refine with_tabW rubrickref01_block.tab8 rubrickref01_block.bits8 (fun HT_ HW_ => ?_)
               generalize wr.drew = w26 at HO_5 HO_6 HB hx175_0 hx176_0 hHeld ⊢
               refine HBulk.bulkT (fuel := 10) HT_.out HW_.out [(0, some 58, false), (1, some 59, false), (3, some 61, false), (6, some 64, false), (10, some 68, false), (12, some 70, false), (13, some 71, false), (14, some 72, false), (17, some 75, false), (18, some 76, false), (19, some 77, false), (15, some 73, true), (20, some 78, true)] #[true, true, false, true, false, false, true, false, false, false, true, false, true, true, true, true, false, true, true, true, true, false, false] (a' := ?_) (by kernel_rfl) rfl hHeld ?_ ?_
               rotate_left
               ·repeat
                 refine HBulk.RunsM.cons (v := ?_) (a1 := ?_) rfl rfl (fun _ _ _ h => h) (by rfl) ?_ ?_ ?_
                 rotate_left
                 ·intro w' hS_; (try (obtain ⟨s0, s1⟩ := hS_ rfl))
                  go_simp
                  with_reducible rfl
                 rotate_left
                 ·simp only [Act.put, List.setIfInBounds_toArray, List.set_cons_zero, List.set_cons_succ, i64_w, i32_w]
                  rfl
                exact HBulk.RunsM.nil
               refine one_ (i := 2) (N := some 60) #[true, true, true, true, false, false, true, false, false, false, true, false, true, true, true, true, false, true, true, true, true, false, false] rfl rfl (one_of HT_.out (by kernel_rfl)) (by decide) (fun K hK => ?_)
               refine goes_ Tryd.func94 (by kernel_rfl) rfl #[.int .u32 x11_1, .int .i64 6] (by rfl) rfl rfl zm ?_
               with_reducible refine (rubrickref01_right.calls x11_1 6 t172 _ A17.out).mono ?_
               rintro e w' ⟨rfl, ⟨nd, rfl⟩⟩
               refine ⟨_, rfl, ?_⟩
               refine hK.out _ _ ⟨hHeld.1, hHeld.2⟩ (fun hHeld => ?_)
               clear hK K
               refine norm_ (a' := ?_) ?_ ?_
               rotate_left
               ·show Act.put _ (some 60) _ = _
                simp only [Act.put, List.setIfInBounds_toArray, List.set_cons_zero, List.set_cons_succ, i64_w, i32_w]
                rfl
               refine one_ (i := 4) (N := some 62) #[true, true, true, true, true, false, true, false, false, false, true, false, true, true, true, true, false, true, true, true, true, false, false] rfl rfl (one_of HT_.out (by kernel_rfl)) (by decide) (fun K hK => ?_)
               refine goes_ Tryd.func94 (by kernel_rfl) rfl #[.int .u32 x11_1, .int .i64 11] (by rfl) rfl rfl zm ?_
               with_reducible refine (rubrickref01_right.calls x11_1 11 t173 _ A18.out).mono ?_
               rintro e w' ⟨rfl, ⟨nd, rfl⟩⟩
               refine ⟨_, rfl, ?_⟩
               refine hK.out _ _ ⟨hHeld.1, hHeld.2⟩ (fun hHeld => ?_)
               clear hK K
               refine norm_ (a' := ?_) ?_ ?_
               rotate_left
               ·show Act.put _ (some 62) _ = _
                simp only [Act.put, List.setIfInBounds_toArray, List.set_cons_zero, List.set_cons_succ, i64_w, i32_w]
                rfl
               refine pure_ (i := 5) (N := some 63) (v := ?_) (a' := ?_) #[true, true, true, true, true, true, true, false, false, false, true, false, true, true, true, true, false, true, true, true, true, false, false] rfl rfl (any_of HT_.out (by kernel_rfl)) (fun _ _ _ h => h) (Or.inl ⟨by rfl, ?_⟩) ?_ ?_
               rotate_left
               ·intro w'
                go_simp
                with_reducible rfl
               rotate_left
               ·simp only [Act.put, List.setIfInBounds_toArray, List.set_cons_zero, List.set_cons_succ, i64_w, i32_w]
                rfl
               refine one_ (i := 7) (N := some 65) #[true, true, true, true, true, true, true, true, false, false, true, false, true, true, true, true, false, true, true, true, true, false, false] rfl rfl (one_of HT_.out (by kernel_rfl)) (by decide) (fun K hK => ?_)
               refine goes_ Tryd.func94 (by kernel_rfl) rfl #[.int .u32 x11_1, .int .i64 25] (by rfl) rfl rfl zm ?_
               with_reducible refine (rubrickref01_right.calls x11_1 25 t174 _ A19.out).mono ?_
               rintro e w' ⟨rfl, ⟨nd, rfl⟩⟩
               refine ⟨_, rfl, ?_⟩
               refine hK.out _ _ ⟨hHeld.1, hHeld.2⟩ (fun hHeld => ?_)
               clear hK K
               refine norm_ (a' := ?_) ?_ ?_
               rotate_left
               ·show Act.put _ (some 65) _ = _
                simp only [Act.put, List.setIfInBounds_toArray, List.set_cons_zero, List.set_cons_succ, i64_w, i32_w]
                rfl
               refine HBulk.bulkT (fuel := 0) HT_.out HW_.out [(8, some 66, false), (9, some 67, false), (11, some 69, false), (16, some 74, false), (21, some 79, false), (22, some 17, false)] #[true, true, true, true, true, true, true, true, true, true, true, true, true, true, true, true, true, true, true, true, true, true, true] (a' := ?_) (by kernel_rfl) rfl hHeld ?_ ?_
               rotate_left
               ·repeat
                 refine HBulk.RunsM.cons (v := ?_) (a1 := ?_) rfl rfl (fun _ _ _ h => h) (by rfl) ?_ ?_ ?_
                 rotate_left
                 ·intro w' hS_
                  go_simp
                  with_reducible rfl
                 rotate_left
                 ·simp only [Act.put, List.setIfInBounds_toArray, List.set_cons_zero, List.set_cons_succ, i64_w, i32_w]
                  rfl
                exact HBulk.RunsM.nil
               refine done_ (done_of HT_.out (by kernel_rfl)) ?_
               try go_wp2_with (first | ((with_reducible refine gate_callee (f := 94) rfl ?_); refine goesL_ (some 81) rfl rfl Tryd.func94 (by kernel_rfl) rfl #[.int .u32 x7_1, .int .i64 2] rfl zm ?_; (with_reducible refine (rubrickref01_right.calls x7_1 2 t177 _ A23.out).mono ?_); rintro e w' ⟨rfl, ⟨nd, rfl⟩⟩; refine ⟨_, rfl, ?_⟩) | ((with_reducible refine gate_callee (f := 94) rfl ?_); refine goesL_ (some 83) rfl rfl Tryd.func94 (by kernel_rfl) rfl #[.int .u32 x7_1, .int .i64 13] rfl zm ?_; (with_reducible refine (rubrickref01_right.calls x7_1 13 t178 _ A24.out).mono ?_); rintro e w' ⟨rfl, ⟨nd, rfl⟩⟩; refine ⟨_, rfl, ?_⟩) | ((with_reducible refine gate_callee (f := 94) rfl ?_); refine goesL_ (some 86) rfl rfl Tryd.func94 (by kernel_rfl) rfl #[.int .u32 x7_1, .int .i64 22] rfl zm ?_; (with_reducible refine (rubrickref01_right.calls x7_1 22 t179 _ A25.out).mono ?_); rintro e w' ⟨rfl, ⟨nd, rfl⟩⟩; refine ⟨_, rfl, ?_⟩))
               go_roundg k1
               case measure => have := HK1.out; omega
               case rel => exact ⟨((((((((((x14_1 + (Go.bits .xor .u32 (Go.bits .xor .u32 t172 t173) t174)) % 4294967296) + (Go.bits .xor .u32 (Go.bits .and .u32 x11_1 x12_1) (Go.bits .and .u32 (Go.bits .xor .u32 4294967295 x11_1) x13_1))) % 4294967296) + (rd t150 x15_1)) % 4294967296) + (rd t147 x15_1)) % 4294967296) + (((Go.bits .xor .u32 (Go.bits .xor .u32 t177 t178) t179) + (Go.bits .xor .u32 (Go.bits .xor .u32 (Go.bits .and .u32 x7_1 x8_1) (Go.bits .and .u32 x7_1 x9_1)) (Go.bits .and .u32 x8_1 x9_1))) % 4294967296)) % 4294967296), (x7_1), (x8_1), (x9_1), ((x10_1 + ((((((((x14_1 + (Go.bits .xor .u32 (Go.bits .xor .u32 t172 t173) t174)) % 4294967296) + (Go.bits .xor .u32 (Go.bits .and .u32 x11_1 x12_1) (Go.bits .and .u32 (Go.bits .xor .u32 4294967295 x11_1) x13_1))) % 4294967296) + (rd t150 x15_1)) % 4294967296) + (rd t147 x15_1)) % 4294967296)) % 4294967296), (x11_1), (x12_1), (x13_1), (wrap64 (x15_1 + 1)), (by first | rfl | (simp; done) | (simp [*]; done)), (by first | rfl | (simp; done) | (simp [*]; done)), (by first | rfl | (simp; done) | (simp [*]; done)), (by first | rfl | (simp; done) | (simp [*]; done)), (by first | rfl | (simp; done) | (simp [*]; done)), (by first | rfl | (simp; done) | (simp [*]; done)), (by first | rfl | (simp; done) | (simp [*]; done)), (by first | rfl | (simp; done) | (simp [*]; done)), (by first | rfl | (simp; done) | (simp [*]; done)), H', ⟨by have := HK1.out; omega⟩, ⟨zr HO_5.out⟩, ⟨zr HO_6.out⟩, ⟨zb HB.out⟩⟩
              ·rw [if_neg c22] at H
               exact absurd H (by simp)
             ·rw [if_neg c21] at H
              exact absurd H (by simp)
            ·rw [if_neg c20] at H
             exact absurd H (by simp)
           ·rw [if_neg c16] at H
            have c16b0 : decide (x15_1 < 64) = false := decide_eq_false c16
            clear c16
            by_cases c29 : 0 < (l0.length : Int)
            ·rw [if_pos c29] at H
             have c29b0 : decide (0 < (l0.length : Int)) = true := decide_eq_true c29
             have c29b1 : decide (0 < l0.length) = true := decide_eq_true (by omega)
             clear c29
             by_cases c30 : 1 < (l0.length : Int)
             ·rw [if_pos c30] at H
              have c30b0 : decide (1 < (l0.length : Int)) = true := decide_eq_true c30
              have c30b1 : decide (1 < l0.length) = true := decide_eq_true (by omega)
              clear c30
              by_cases c31 : 2 < (l0.length : Int)
              ·rw [if_pos c31] at H
               have c31b0 : decide (2 < (l0.length : Int)) = true := decide_eq_true c31
               have c31b1 : decide (2 < l0.length) = true := decide_eq_true (by omega)
               clear c31
               by_cases c32 : 3 < (l0.length : Int)
               ·rw [if_pos c32] at H
                have c32b0 : decide (3 < (l0.length : Int)) = true := decide_eq_true c32
                have c32b1 : decide (3 < l0.length) = true := decide_eq_true (by omega)
                clear c32
                by_cases c33 : 4 < (l0.length : Int)
                ·rw [if_pos c33] at H
                 have c33b0 : decide (4 < (l0.length : Int)) = true := decide_eq_true c33
                 have c33b1 : decide (4 < l0.length) = true := decide_eq_true (by omega)
                 clear c33
                 by_cases c34 : 5 < (l0.length : Int)
                 ·rw [if_pos c34] at H
                  have c34b0 : decide (5 < (l0.length : Int)) = true := decide_eq_true c34
                  have c34b1 : decide (5 < l0.length) = true := decide_eq_true (by omega)
                  clear c34
                  by_cases c35 : 6 < (l0.length : Int)
                  ·rw [if_pos c35] at H
                   have c35b0 : decide (6 < (l0.length : Int)) = true := decide_eq_true c35
                   have c35b1 : decide (6 < l0.length) = true := decide_eq_true (by omega)
                   clear c35
                   by_cases c36 : 7 < (l0.length : Int)
                   ·rw [if_pos c36] at H
                    have c36b0 : decide (7 < (l0.length : Int)) = true := decide_eq_true c36
                    have c36b1 : decide (7 < l0.length) = true := decide_eq_true (by omega)
                    clear c36
                    obtain ⟨y169, hy169⟩ : ∃ y_ : List Int, y_ = (([((rd l0 0) + x7_1) % 4294967296, ((rd l0 1) + x8_1) % 4294967296, ((rd l0 2) + x9_1) % 4294967296, ((rd l0 3) + x10_1) % 4294967296, ((rd l0 4) + x11_1) % 4294967296, ((rd l0 5) + x12_1) % 4294967296, ((rd l0 6) + x13_1) % 4294967296, ((rd l0 7) + x14_1) % 4294967296] : List Int)) := ⟨_, rfl⟩
                    replace H : (some y169) = some r := by first | (rw [hy169]; with_reducible exact H) | (have H2_ := (Option.bind_some _ _).symm.trans H; rw [hy169]; with_reducible exact H2_) | (have H2_ := (Option.bind_some _ _).symm.trans H; with_reducible exact H2_) | with_reducible exact H | (rw [hy169]; exact H) | exact H
                    have Ny169 := Aside0.mk hy169
                    clear hy169
                    obtain rfl := Option.some.inj H
                    try go_wp2
                    have n0_ := Aside0.mk (Kd.R_drew HO_5.out)
                    have n1_ := Aside0.mk (Kd.R_drew HO_6.out)
                    have n2_ := Aside0.mk (below_drew1 HB.out)
                    clear HO_5
                    clear HO_6
                    clear HB
                    have HO_5 := n0_
                    have HO_6 := n1_
                    have HB := n2_
                    clear n0_ n1_ n2_
                    have p161 : 0 ≤ (0 : Int) := (by omega)
                    have q161 : 0 < (l0.length : Int) := of_decide_eq_true (by first | (with_reducible assumption) | assumption)
                    obtain ⟨ad161, e161, hx161_0⟩ := Kd.at_int HR0.out 0 p161 q161
                    have hw161_0 := hx161_0
                    (try rw [show ((0 : Int)).toNat = 0 from rfl] at hw161_0)
                    (try rw [show 0 * 1 = 0 from rfl] at hw161_0)
                    (try rw [Addr.add_zero'] at hw161_0)
                    obtain rfl : ad153 = ad161 := (by injection e161)
                    have qi161 : (0 < l0.length) = True := eq_true (by omega)
                    (try rw [show ((0 : Int)).toNat = 0 from rfl] at hx161_0)
                    (try rw [Addr.add_zero'] at hx161_0)
                    replace hx161_0 := (HB.out.cell (World.block_lt_of_cell? w _ hx161_0)).trans hx161_0
                    replace p161 := eq_true p161
                    replace q161 := eq_true q161
                    have p162 : 0 ≤ (1 : Int) := (by omega)
                    have q162 : 1 < (l0.length : Int) := of_decide_eq_true (by first | (with_reducible assumption) | assumption)
                    obtain ⟨ad162, e162, hx162_0⟩ := Kd.at_int HR0.out 1 p162 q162
                    have hw162_0 := hx162_0
                    (try rw [show ((1 : Int)).toNat = 1 from rfl] at hw162_0)
                    (try rw [show 1 * 1 = 1 from rfl] at hw162_0)
                    (try simp only [Nat.reduceMul, Nat.reduceEqDiff, Go.Addr.add, ↓reduceIte] at hw162_0)
                    obtain rfl : ad153 = ad162 := (by injection e162)
                    (try simp only [show (1 : Int).toNat = 1 from rfl, Nat.reduceMul, Nat.reduceEqDiff, Go.Addr.add, ↓reduceIte] at hx162_0)
                    have qi162 : (1 < l0.length) = True := eq_true (by omega)
                    (try rw [show ((1 : Int)).toNat = 1 from rfl] at hx162_0)
                    replace hx162_0 := (HB.out.cell (World.block_lt_of_cell? w _ hx162_0)).trans hx162_0
                    replace p162 := eq_true p162
                    replace q162 := eq_true q162
                    have p163 : 0 ≤ (2 : Int) := (by omega)
                    have q163 : 2 < (l0.length : Int) := of_decide_eq_true (by first | (with_reducible assumption) | assumption)
                    obtain ⟨ad163, e163, hx163_0⟩ := Kd.at_int HR0.out 2 p163 q163
                    have hw163_0 := hx163_0
                    (try rw [show ((2 : Int)).toNat = 2 from rfl] at hw163_0)
                    (try rw [show 2 * 1 = 2 from rfl] at hw163_0)
                    (try simp only [Nat.reduceMul, Nat.reduceEqDiff, Go.Addr.add, ↓reduceIte] at hw163_0)
                    obtain rfl : ad153 = ad163 := (by injection e163)
                    (try simp only [show (2 : Int).toNat = 2 from rfl, Nat.reduceMul, Nat.reduceEqDiff, Go.Addr.add, ↓reduceIte] at hx163_0)
                    have qi163 : (2 < l0.length) = True := eq_true (by omega)
                    (try rw [show ((2 : Int)).toNat = 2 from rfl] at hx163_0)
                    replace hx163_0 := (HB.out.cell (World.block_lt_of_cell? w _ hx163_0)).trans hx163_0
                    replace p163 := eq_true p163
                    replace q163 := eq_true q163
                    have p164 : 0 ≤ (3 : Int) := (by omega)
                    have q164 : 3 < (l0.length : Int) := of_decide_eq_true (by first | (with_reducible assumption) | assumption)
                    obtain ⟨ad164, e164, hx164_0⟩ := Kd.at_int HR0.out 3 p164 q164
                    have hw164_0 := hx164_0
                    (try rw [show ((3 : Int)).toNat = 3 from rfl] at hw164_0)
                    (try rw [show 3 * 1 = 3 from rfl] at hw164_0)
                    (try simp only [Nat.reduceMul, Nat.reduceEqDiff, Go.Addr.add, ↓reduceIte] at hw164_0)
                    obtain rfl : ad153 = ad164 := (by injection e164)
                    (try simp only [show (3 : Int).toNat = 3 from rfl, Nat.reduceMul, Nat.reduceEqDiff, Go.Addr.add, ↓reduceIte] at hx164_0)
                    have qi164 : (3 < l0.length) = True := eq_true (by omega)
                    (try rw [show ((3 : Int)).toNat = 3 from rfl] at hx164_0)
                    replace hx164_0 := (HB.out.cell (World.block_lt_of_cell? w _ hx164_0)).trans hx164_0
                    replace p164 := eq_true p164
                    replace q164 := eq_true q164
                    have p165 : 0 ≤ (4 : Int) := (by omega)
                    have q165 : 4 < (l0.length : Int) := of_decide_eq_true (by first | (with_reducible assumption) | assumption)
                    obtain ⟨ad165, e165, hx165_0⟩ := Kd.at_int HR0.out 4 p165 q165
                    have hw165_0 := hx165_0
                    (try rw [show ((4 : Int)).toNat = 4 from rfl] at hw165_0)
                    (try rw [show 4 * 1 = 4 from rfl] at hw165_0)
                    (try simp only [Nat.reduceMul, Nat.reduceEqDiff, Go.Addr.add, ↓reduceIte] at hw165_0)
                    obtain rfl : ad153 = ad165 := (by injection e165)
                    (try simp only [show (4 : Int).toNat = 4 from rfl, Nat.reduceMul, Nat.reduceEqDiff, Go.Addr.add, ↓reduceIte] at hx165_0)
                    have qi165 : (4 < l0.length) = True := eq_true (by omega)
                    (try rw [show ((4 : Int)).toNat = 4 from rfl] at hx165_0)
                    replace hx165_0 := (HB.out.cell (World.block_lt_of_cell? w _ hx165_0)).trans hx165_0
                    replace p165 := eq_true p165
                    replace q165 := eq_true q165
                    have p166 : 0 ≤ (5 : Int) := (by omega)
                    have q166 : 5 < (l0.length : Int) := of_decide_eq_true (by first | (with_reducible assumption) | assumption)
                    obtain ⟨ad166, e166, hx166_0⟩ := Kd.at_int HR0.out 5 p166 q166
                    have hw166_0 := hx166_0
                    (try rw [show ((5 : Int)).toNat = 5 from rfl] at hw166_0)
                    (try rw [show 5 * 1 = 5 from rfl] at hw166_0)
                    (try simp only [Nat.reduceMul, Nat.reduceEqDiff, Go.Addr.add, ↓reduceIte] at hw166_0)
                    obtain rfl : ad153 = ad166 := (by injection e166)
                    (try simp only [show (5 : Int).toNat = 5 from rfl, Nat.reduceMul, Nat.reduceEqDiff, Go.Addr.add, ↓reduceIte] at hx166_0)
                    have qi166 : (5 < l0.length) = True := eq_true (by omega)
                    (try rw [show ((5 : Int)).toNat = 5 from rfl] at hx166_0)
                    replace hx166_0 := (HB.out.cell (World.block_lt_of_cell? w _ hx166_0)).trans hx166_0
                    replace p166 := eq_true p166
                    replace q166 := eq_true q166
                    have p167 : 0 ≤ (6 : Int) := (by omega)
                    have q167 : 6 < (l0.length : Int) := of_decide_eq_true (by first | (with_reducible assumption) | assumption)
                    obtain ⟨ad167, e167, hx167_0⟩ := Kd.at_int HR0.out 6 p167 q167
                    have hw167_0 := hx167_0
                    (try rw [show ((6 : Int)).toNat = 6 from rfl] at hw167_0)
                    (try rw [show 6 * 1 = 6 from rfl] at hw167_0)
                    (try simp only [Nat.reduceMul, Nat.reduceEqDiff, Go.Addr.add, ↓reduceIte] at hw167_0)
                    obtain rfl : ad153 = ad167 := (by injection e167)
                    (try simp only [show (6 : Int).toNat = 6 from rfl, Nat.reduceMul, Nat.reduceEqDiff, Go.Addr.add, ↓reduceIte] at hx167_0)
                    have qi167 : (6 < l0.length) = True := eq_true (by omega)
                    (try rw [show ((6 : Int)).toNat = 6 from rfl] at hx167_0)
                    replace hx167_0 := (HB.out.cell (World.block_lt_of_cell? w _ hx167_0)).trans hx167_0
                    replace p167 := eq_true p167
                    replace q167 := eq_true q167
                    have p168 : 0 ≤ (7 : Int) := (by omega)
                    have q168 : 7 < (l0.length : Int) := of_decide_eq_true (by first | (with_reducible assumption) | assumption)
                    obtain ⟨ad168, e168, hx168_0⟩ := Kd.at_int HR0.out 7 p168 q168
                    have hw168_0 := hx168_0
                    (try rw [show ((7 : Int)).toNat = 7 from rfl] at hw168_0)
                    (try rw [show 7 * 1 = 7 from rfl] at hw168_0)
                    (try simp only [Nat.reduceMul, Nat.reduceEqDiff, Go.Addr.add, ↓reduceIte] at hw168_0)
                    obtain rfl : ad153 = ad168 := (by injection e168)
                    (try simp only [show (7 : Int).toNat = 7 from rfl, Nat.reduceMul, Nat.reduceEqDiff, Go.Addr.add, ↓reduceIte] at hx168_0)
                    have qi168 : (7 < l0.length) = True := eq_true (by omega)
                    (try rw [show ((7 : Int)).toNat = 7 from rfl] at hx168_0)
                    replace hx168_0 := (HB.out.cell (World.block_lt_of_cell? w _ hx168_0)).trans hx168_0
                    replace p168 := eq_true p168
                    replace q168 := eq_true q168
                    refine start_ (n := 42) (S := fun w' => w'.cell? ad153 = some (.int .u32 (rd l0 0)) ∧ w'.cell? ⟨ad153.block, ad153.off + 1, none⟩ = some (.int .u32 (rd l0 1)) ∧ w'.cell? ⟨ad153.block, ad153.off + 2, none⟩ = some (.int .u32 (rd l0 2)) ∧ w'.cell? ⟨ad153.block, ad153.off + 3, none⟩ = some (.int .u32 (rd l0 3)) ∧ w'.cell? ⟨ad153.block, ad153.off + 4, none⟩ = some (.int .u32 (rd l0 4)) ∧ w'.cell? ⟨ad153.block, ad153.off + 5, none⟩ = some (.int .u32 (rd l0 5)) ∧ w'.cell? ⟨ad153.block, ad153.off + 6, none⟩ = some (.int .u32 (rd l0 6)) ∧ w'.cell? ⟨ad153.block, ad153.off + 7, none⟩ = some (.int .u32 (rd l0 7))) (ds := []) #[false, false, false, false, false, false, false, false, false, false, false, false, false, false, false, false, false, false, false, false, false, false, false, false, false, false, false, false, false, false, false, false, false, false, false, false, false, false, false, false, false, false] (by kernel_rfl) rfl rfl ⟨((HB.out.cell (World.block_lt_of_cell? w _ hw161_0)).trans hw161_0), ((HB.out.cell (World.block_lt_of_cell? w _ hw162_0)).trans hw162_0), ((HB.out.cell (World.block_lt_of_cell? w _ hw163_0)).trans hw163_0), ((HB.out.cell (World.block_lt_of_cell? w _ hw164_0)).trans hw164_0), ((HB.out.cell (World.block_lt_of_cell? w _ hw165_0)).trans hw165_0), ((HB.out.cell (World.block_lt_of_cell? w _ hw166_0)).trans hw166_0), ((HB.out.cell (World.block_lt_of_cell? w _ hw167_0)).trans hw167_0), ((HB.out.cell (World.block_lt_of_cell? w _ hw168_0)).trans hw168_0)⟩ (fun hHeld => ?_); refine with_tabW rubrickref01_block.tab18 rubrickref01_block.bits18 (fun HT_ HW_ => ?_)
                    generalize wr.drew = w37 at HO_5 HO_6 HB hx161_0 hx162_0 hx163_0 hx164_0 hx165_0 hx166_0 hx167_0 hx168_0 hHeld ⊢
                    refine HBulk.bulkT (fuel := 2) HT_.out HW_.out [(0, some 112, false), (1, some 113, false), (3, some 115, false), (5, some 117, false), (6, some 118, false), (8, some 120, false), (10, some 122, false), (11, some 123, false), (13, some 125, false), (15, some 127, false), (16, some 128, false), (18, some 130, false), (20, some 132, false), (21, some 133, false), (23, some 135, false), (25, some 137, false), (26, some 138, false), (28, some 140, false), (30, some 142, false), (31, some 143, false), (33, some 145, false), (35, some 147, false), (36, some 148, false), (38, some 150, false), (2, some 114, true), (4, some 116, false), (7, some 119, true), (9, some 121, false), (12, some 124, true), (14, some 126, false), (17, some 129, true), (19, some 131, false), (22, some 134, true), (24, some 136, false), (27, some 139, true), (29, some 141, false), (32, some 144, true), (34, some 146, false), (37, some 149, true), (39, some 151, false)] #[true, true, true, true, true, true, true, true, true, true, true, true, true, true, true, true, true, true, true, true, true, true, true, true, true, true, true, true, true, true, true, true, true, true, true, true, true, true, true, true, false, false] (a' := ?_) (by kernel_rfl) rfl hHeld ?_ ?_
                    rotate_left
                    ·repeat
                      refine HBulk.RunsM.cons (v := ?_) (a1 := ?_) rfl rfl (fun _ _ _ h => h) (by rfl) ?_ ?_ ?_
                      rotate_left
                      ·intro w' hS_; (try (obtain ⟨s0, s1, s2, s3, s4, s5, s6, s7⟩ := hS_ rfl))
                       go_simp
                       with_reducible rfl
                      rotate_left
                      ·simp only [Act.put, List.setIfInBounds_toArray, List.set_cons_zero, List.set_cons_succ, i64_w, i32_w]
                       rfl
                     exact HBulk.RunsM.nil
                    refine one_ (i := 40) (N := some 152) #[true, true, true, true, true, true, true, true, true, true, true, true, true, true, true, true, true, true, true, true, true, true, true, true, true, true, true, true, true, true, true, true, true, true, true, true, true, true, true, true, true, false] rfl rfl (one_of HT_.out (by kernel_rfl)) (by decide) (fun K hK => ?_)
                    refine Kd.R_lit_step (Kd.int .u32) _ 100 ?hg (N := 152) ?hd (xs := ([((rd l0 0) + x7_1) % 4294967296, ((rd l0 1) + x8_1) % 4294967296, ((rd l0 2) + x9_1) % 4294967296, ((rd l0 3) + x10_1) % 4294967296, ((rd l0 4) + x11_1) % 4294967296, ((rd l0 5) + x12_1) % 4294967296, ((rd l0 6) + x13_1) % 4294967296, ((rd l0 7) + x14_1) % 4294967296] : List Int)) (inner := [.int .u32 (((rd l0 0) + x7_1) % 4294967296), .int .u32 (((rd l0 1) + x8_1) % 4294967296), .int .u32 (((rd l0 2) + x9_1) % 4294967296), .int .u32 (((rd l0 3) + x10_1) % 4294967296), .int .u32 (((rd l0 4) + x11_1) % 4294967296), .int .u32 (((rd l0 5) + x12_1) % 4294967296), .int .u32 (((rd l0 6) + x13_1) % 4294967296), .int .u32 (((rd l0 7) + x14_1) % 4294967296)]) (ok := fun _ => True) (okp := fun _ => True) ?hr ?hp (fun _ hk => hk) trivial (Below.refl _ _) (Nat.le_refl _) (by simp) ?_; (case hd => rfl); (case hg => rfl); (case hr => first | (go_simp; done) | (go_simp; rfl)); (case hp => exact (Reps.one (show Kd.M (Kd.int .u32) _ _ _ (((rd l0 0) + x7_1) % 4294967296) [.int .u32 (((rd l0 0) + x7_1) % 4294967296)] from rfl) (Reps.one (show Kd.M (Kd.int .u32) _ _ _ (((rd l0 1) + x8_1) % 4294967296) [.int .u32 (((rd l0 1) + x8_1) % 4294967296)] from rfl) (Reps.one (show Kd.M (Kd.int .u32) _ _ _ (((rd l0 2) + x9_1) % 4294967296) [.int .u32 (((rd l0 2) + x9_1) % 4294967296)] from rfl) (Reps.one (show Kd.M (Kd.int .u32) _ _ _ (((rd l0 3) + x10_1) % 4294967296) [.int .u32 (((rd l0 3) + x10_1) % 4294967296)] from rfl) (Reps.one (show Kd.M (Kd.int .u32) _ _ _ (((rd l0 4) + x11_1) % 4294967296) [.int .u32 (((rd l0 4) + x11_1) % 4294967296)] from rfl) (Reps.one (show Kd.M (Kd.int .u32) _ _ _ (((rd l0 5) + x12_1) % 4294967296) [.int .u32 (((rd l0 5) + x12_1) % 4294967296)] from rfl) (Reps.one (show Kd.M (Kd.int .u32) _ _ _ (((rd l0 6) + x13_1) % 4294967296) [.int .u32 (((rd l0 6) + x13_1) % 4294967296)] from rfl) (Reps.one (show Kd.M (Kd.int .u32) _ _ _ (((rd l0 7) + x14_1) % 4294967296) [.int .u32 (((rd l0 7) + x14_1) % 4294967296)] from rfl) (Reps.none _ _))))))))))
                    intro v170 w38 ho39 hb hg_ hnew_
                    clear hg_ hnew_
                    (first | rw [← Ny169.out] at ho39 | (simp only [Int.reduceToNat] at ho39; rw [← Ny169.out] at ho39))
                    have n0_ := Aside0.mk (Kd.R_elder' (zr HO_5.out) (Kd.R_base ho39) hb)
                    have n1_ := Aside0.mk (Kd.R_elder' (zr HO_6.out) (Kd.R_base ho39) hb)
                    have n2_ := Aside0.mk (Kd.R_lower (Kd.R_new' (Kd.R_new' ho39 (Kd.R_lt (zr HO_5.out))) (Kd.R_lt (zr HO_6.out))) (below_size (zb HB.out)))
                    have n3_ := zS HB hb
                    clear HO_5
                    clear HO_6
                    clear HB
                    have HO_5 := n0_
                    have HO_6 := n1_
                    have HO171 := n2_
                    have HB := n3_
                    clear n0_ n1_ n2_ n3_
                    clear hb ho39
                    refine hK.out _ _ ⟨((HB.out.cell (World.block_lt_of_cell? w _ hw161_0)).trans hw161_0), ((HB.out.cell (World.block_lt_of_cell? w _ hw162_0)).trans hw162_0), ((HB.out.cell (World.block_lt_of_cell? w _ hw163_0)).trans hw163_0), ((HB.out.cell (World.block_lt_of_cell? w _ hw164_0)).trans hw164_0), ((HB.out.cell (World.block_lt_of_cell? w _ hw165_0)).trans hw165_0), ((HB.out.cell (World.block_lt_of_cell? w _ hw166_0)).trans hw166_0), ((HB.out.cell (World.block_lt_of_cell? w _ hw167_0)).trans hw167_0), ((HB.out.cell (World.block_lt_of_cell? w _ hw168_0)).trans hw168_0)⟩ (fun hHeld => ?_)
                    clear hK K
                    refine norm_ (a' := ?_) ?_ ?_
                    rotate_left
                    ·show Act.put _ (some 152) _ = _
                     simp only [Act.put, List.setIfInBounds_toArray, List.set_cons_zero, List.set_cons_succ, i64_w, i32_w]
                     rfl
                    refine pure_ (i := 41) (N := some 4) (v := ?_) (a' := ?_) #[true, true, true, true, true, true, true, true, true, true, true, true, true, true, true, true, true, true, true, true, true, true, true, true, true, true, true, true, true, true, true, true, true, true, true, true, true, true, true, true, true, true] rfl rfl (any_of HT_.out (by kernel_rfl)) (fun _ _ _ h => h) (Or.inl ⟨by rfl, ?_⟩) ?_ ?_
                    rotate_left
                    ·intro w'
                     go_simp
                     with_reducible rfl
                    rotate_left
                    ·simp only [Act.put, List.setIfInBounds_toArray, List.set_cons_zero, List.set_cons_succ, i64_w, i32_w]
                     rfl
                    refine done_ (done_of HT_.out (by kernel_rfl)) ?_
                    try go_wp2
                    go_ret
                    exact ⟨_, by first | rfl | (simp [errW_none, errW_some] <;> rfl) | (simp [*, errW_none, errW_some] <;> rfl), by (with_reducible repeat (first | apply Kd.R_alloc | apply Kd.R_drewN | apply Kd.R_drew)); exact Kd.R_mono HO171.out (fun _ hk => trivial), zb HB.out⟩
                   ·rw [if_neg c36] at H
                    exact absurd H (by simp)
                  ·rw [if_neg c35] at H
                   exact absurd H (by simp)
                 ·rw [if_neg c34] at H
                  exact absurd H (by simp)
                ·rw [if_neg c33] at H
                 exact absurd H (by simp)
               ·rw [if_neg c32] at H
                exact absurd H (by simp)
              ·rw [if_neg c31] at H
               exact absurd H (by simp)
             ·rw [if_neg c30] at H
              exact absurd H (by simp)
            ·rw [if_neg c29] at H
             exact absurd H (by simp)
        ·rw [if_neg c12] at H
         exact absurd H (by simp)
       ·rw [if_neg c11] at H
        exact absurd H (by simp)
      ·rw [if_neg c10] at H
       exact absurd H (by simp)
     ·rw [if_neg c9] at H
      exact absurd H (by simp)
    ·rw [if_neg c8] at H
     exact absurd H (by simp)
   ·rw [if_neg c7] at H
    exact absurd H (by simp)
  ·rw [if_neg c6] at H
   exact absurd H (by simp)
 ·rw [if_neg c5] at H
  exact absurd H (by simp)
end Go.Proofs.YtpmefpdafkbphaaDoor.PR
namespace Go.Proofs.YtpmefpdafkbphaaDoor.PR
open Go.Proofs.YtpmefpdafkbphaaDoor.HZ Go.RowKit Go.Proofs.YtpmefpdafkbphaaDoor Go.Proofs.YtpmefpdafkbphaaDoor.HSha Go.Proofs.YtpmefpdafkbphaaDoorW.PrintWords Go.Proofs.YtpmefpdafkbphaaDoorW.PrintLast Go.Proofs.YtpmefpdafkbphaaDoorW.PrintMore
attribute [local go_sem] max2_int min2_int max_two min_two max_three min_three max_four min_four   -- for this text's walks alone
set_option linter.unusedVariables false
set_option linter.unusedSimpArgs false
/-! ### rubrickref01_Sum: function 53 -/
mutual
def rubrickref01_Sum.l0 : Nat → List Int → List Int → Int → Option (ByteArray)
 | 0, _, _, _ => none
 | k + 1, x3, x4, x5 => if x5 < (x4.length : Int) then (if 0 ≤ x5 then (if x5 ≤ (wrap64 (x5 + 64)) then (if (wrap64 (x5 + 64)) ≤ (x4.length : Int) then ((rubrickref01_block.f k x3 ((x4.take ((wrap64 (x5 + 64)) : Int).toNat).drop (x5 : Int).toNat)).bind fun t190 => (rubrickref01_Sum.l0 k t190 x4 (wrap64 (x5 + 64)))) else (none)) else (none)) else (none)) else (rubrickref01_Sum.l1 k x3 ([] : List Int) 0)
def rubrickref01_Sum.l1 : Nat → List Int → List Int → Int → Option (ByteArray)
 | 0, _, _, _ => none
 | k + 1, x3, x6, x7 => if x7 < 8 then (if 0 ≤ x7 then (if x7 < (x3.length : Int) then ((some (([((Int.tdiv (rd x3 x7) 16777216) % 4294967296) % 256, ((Int.tdiv (rd x3 x7) 65536) % 4294967296) % 256, ((Int.tdiv (rd x3 x7) 256) % 4294967296) % 256, (Int.tmod (rd x3 x7) 256) % 256] : List Int) : List Int)).bind fun y197 => (if x6.length + y197.length < 140737488355328 then (rubrickref01_Sum.l1 k x3 (x6 ++ y197) (wrap64 (x7 + 1))) else (none))) else (none)) else (none)) else (some (strOfNums x6))
end
def rubrickref01_Sum.f (k : Nat) (l0 : List Int) : Option (ByteArray) := (rubrickref01_padded.f k l0).bind fun t183 => (rubrickref01_Sum.l0 k (([1779033703, 3144134277, 1013904242, 2773480762, 1359893119, 2600822924, 528734635, 1541459225] : List Int)) t183 0)
theorem rubrickref01_Sum.mono_l : ∀ k, (∀ y0 y1 y2, LeO (rubrickref01_Sum.l0 k y0 y1 y2) (rubrickref01_Sum.l0 (k + 1) y0 y1 y2)) ∧ (∀ y0 y1 y2, LeO (rubrickref01_Sum.l1 k y0 y1 y2) (rubrickref01_Sum.l1 (k + 1) y0 y1 y2))
 | 0 => ⟨fun _ _ _ r h => by simp [rubrickref01_Sum.l0] at h, fun _ _ _ r h => by simp [rubrickref01_Sum.l1] at h⟩
 | k + 1 => by
  obtain ⟨ih0, ih1⟩ := rubrickref01_Sum.mono_l k
  refine ⟨?_, ?_⟩
  ·intro y0 y1 y2
   unfold rubrickref01_Sum.l0
   repeat' first
   | (with_reducible exact ih0 _ _ _)
   | (with_reducible exact ih1 _ _ _)
   | (with_reducible exact rubrickref01_block.mono _ _ _)
   | (with_reducible exact rubrickref01_padded.mono _ _)
   | (with_reducible exact LeO.refl _)
   | (with_reducible exact LeO.none _)
   | (with_reducible refine LeO.ite ?_ ?_)
   | (with_reducible refine LeO.bind ?_ (fun _ => ?_))
  ·intro y0 y1 y2
   unfold rubrickref01_Sum.l1
   repeat' first
   | (with_reducible exact ih0 _ _ _)
   | (with_reducible exact ih1 _ _ _)
   | (with_reducible exact rubrickref01_block.mono _ _ _)
   | (with_reducible exact rubrickref01_padded.mono _ _)
   | (with_reducible exact LeO.refl _)
   | (with_reducible exact LeO.none _)
   | (with_reducible refine LeO.ite ?_ ?_)
   | (with_reducible refine LeO.bind ?_ (fun _ => ?_))
theorem rubrickref01_Sum.mono : ∀ a0 k, LeO (rubrickref01_Sum.f k a0) (rubrickref01_Sum.f (k + 1) a0) := by
 intro a0 k
 obtain ⟨ih0, ih1⟩ := rubrickref01_Sum.mono_l k
 unfold rubrickref01_Sum.f
 repeat' first
   | (with_reducible exact ih0 _ _ _)
   | (with_reducible exact ih1 _ _ _)
   | (with_reducible exact rubrickref01_block.mono _ _ _)
   | (with_reducible exact rubrickref01_padded.mono _ _)
   | (with_reducible exact LeO.refl _)
   | (with_reducible exact LeO.none _)
   | (with_reducible refine LeO.ite ?_ ?_)
   | (with_reducible refine LeO.bind ?_ (fun _ => ?_))
def rubrickref01_Sum.T11 : Bool × List (List Nat × List Nat) := (true, [([], []), ([], []), ([], []), ([1, 2], [1, 2]), ([3], [3]), ([4], [4]), ([5], [5]), ([], []), ([], []), ([7, 8], [7, 8]), ([9], [9]), ([10], [10]), ([11], [11]), ([12], [12]), ([], []), ([], []), ([14, 15], [14, 15]), ([16], [16]), ([17], [17]), ([18], [18]), ([19], [19]), ([], []), ([], []), ([21, 22], [21, 22]), ([23], [23]), ([24], [24]), ([25], [25]), ([6, 13, 20, 26], [6, 13, 20, 26]), ([0, 27], [0, 27]), ([28, 28, 0, 1, 2, 3, 4, 5, 6, 7, 8, 9, 10, 11, 12, 13, 14, 15, 16, 17, 18, 19, 20, 21, 22, 23, 24, 25, 26, 27, 28], [0, 28])])
def rubrickref01_Sum.B11 : List Nat := [0, 0, 0, 6, 14, 30, 62, 0, 0, 384, 896, 1920, 3968, 8064, 0, 0, 49152, 114688, 245760, 507904, 1032192, 0, 0, 6291456, 14680064, 31457280, 65011712, 134217726, 268435455, 536870911]
theorem rubrickref01_Sum.tab11 : rtab .any (opsOf Tryd.f53 11) = rubrickref01_Sum.T11 := by kernel_rfl
theorem rubrickref01_Sum.bits11 : waitsOk rubrickref01_Sum.T11.2 rubrickref01_Sum.B11 = true := by kernel_rfl
set_option maxHeartbeats 8000000 in
set_option maxRecDepth 100000 in
theorem rubrickref01_Sum.calls (k : Nat) (A0 : Option Addr) (c0 : Nat) (l0 : List Int) (r : ByteArray) (w : World) (hr0 : Kd.C (Kd.int .u8) w A0 l0.length l0) (hc0 : l0.length ≤ c0) (h : rubrickref01_Sum.f k l0 = some r) :
  Calls Tryd.prog 53 #[.slice A0 l0.length c0] w fun e w' => e = .returned (.string r) ∧ Below w.heap.size w w' := by
 have HR0 := Aside0.mk hr0
 have HC0 := Aside0.mk hc0
 clear hr0 hc0
 have HB := Aside0.mk (Below.refl w.heap.size w)
 have H : ((rubrickref01_padded.f k l0).bind fun t183 => (rubrickref01_Sum.l0 k (([1779033703, 3144134277, 1013904242, 2773480762, 1359893119, 2600822924, 528734635, 1541459225] : List Int)) t183 0)) = some r := h
 clear h
 obtain ⟨y180, hy180⟩ : ∃ y_ : List Int, y_ = (([1779033703, 3144134277, 1013904242, 2773480762, 1359893119, 2600822924, 528734635, 1541459225] : List Int)) := ⟨_, rfl⟩
 replace H : ((rubrickref01_padded.f k l0).bind fun t183 => (rubrickref01_Sum.l0 k y180 t183 0)) = some r := by first | (rw [hy180]; with_reducible exact H) | (have H2_ := (Option.bind_some _ _).symm.trans H; rw [hy180]; with_reducible exact H2_) | (have H2_ := (Option.bind_some _ _).symm.trans H; with_reducible exact H2_) | with_reducible exact H | (rw [hy180]; exact H) | exact H
 have Ny180 := Aside0.mk hy180
 clear hy180
 replace H := Option.bind_eq_some_iff.mp H
 obtain ⟨t183, A20, H⟩ := H
 replace H : (rubrickref01_Sum.l0 k y180 t183 0) = some r := H
 have A2 := Aside0.mk A20
 clear A20
 have H' := Aside0.mk H
 clear H
 go_enter Tryd.func53, Tryd.ntmps53
 go_wp2_with (first | ((with_reducible refine gate_dst (N := 8) rfl ?_); refine Kd.R_lit (Kd.int .u32) _ 100 ?hg (N := 8) ?hd (xs := ([1779033703, 3144134277, 1013904242, 2773480762, 1359893119, 2600822924, 528734635, 1541459225] : List Int)) (inner := [.int .u32 1779033703, .int .u32 3144134277, .int .u32 1013904242, .int .u32 2773480762, .int .u32 1359893119, .int .u32 2600822924, .int .u32 528734635, .int .u32 1541459225]) (ok := fun _ => True) (okp := fun _ => True) ?hr ?hp (fun _ hk => hk) trivial (Below.refl _ _) (Nat.le_refl _) (by simp) ?_; (case hd => rfl); (case hg => rfl); (case hr => first | (go_simp; done) | (go_simp; rfl)); (case hp => exact (Reps.one (show Kd.M (Kd.int .u32) _ _ _ 1779033703 [.int .u32 1779033703] from rfl) (Reps.one (show Kd.M (Kd.int .u32) _ _ _ 3144134277 [.int .u32 3144134277] from rfl) (Reps.one (show Kd.M (Kd.int .u32) _ _ _ 1013904242 [.int .u32 1013904242] from rfl) (Reps.one (show Kd.M (Kd.int .u32) _ _ _ 2773480762 [.int .u32 2773480762] from rfl) (Reps.one (show Kd.M (Kd.int .u32) _ _ _ 1359893119 [.int .u32 1359893119] from rfl) (Reps.one (show Kd.M (Kd.int .u32) _ _ _ 2600822924 [.int .u32 2600822924] from rfl) (Reps.one (show Kd.M (Kd.int .u32) _ _ _ 528734635 [.int .u32 528734635] from rfl) (Reps.one (show Kd.M (Kd.int .u32) _ _ _ 1541459225 [.int .u32 1541459225] from rfl) (Reps.none _ _)))))))))); intro v181 w3 ho4 hb hg_ hnew_; clear hg_ hnew_; (first | rw [← Ny180.out] at ho4 | (simp only [Int.reduceToNat] at ho4; rw [← Ny180.out] at ho4)); have n0_ := zL ho4 HB; have n1_ := zS HB hb; clear HB; have HO182 := n0_; have HB := n1_; clear n0_ n1_; clear hb ho4) | ((with_reducible refine gate_callee (f := 84) rfl ?_); refine goesL_ (some 10) rfl rfl Tryd.func84 (by kernel_rfl) rfl #[.slice A0 l0.length c0] rfl zm ?_; (with_reducible refine (rubrickref01_padded.calls k _ _ l0 t183 _ ?side1 ?side2 A2.out).mono ?_); (case side1 => exact zc (Kd.C_below HR0.out HB.out)); (case side2 => exact HC0.out); rintro e w5 ⟨v184, rfl, ho0, hb⟩; refine ⟨_, rfl, ?_⟩; have n0_ := zR HO182 hb; have n1_ := zL ho0 HB; have n2_ := zS HB hb; clear HO182; clear HB; have HO182 := n0_; have HO185 := n1_; have HB := n2_; clear n0_ n1_ n2_; (try clear hb); (try clear hb2); (try clear hk); (try clear hi); (try clear ho0)))
 go_loopg [3, 5] k (fun kq v3 v5 w' => ∃ (x3_1 : List Int) (x5_1 : Int), v5 = .int .i64 x5_1 ∧ Aside0 (rubrickref01_Sum.l0 kq x3_1 t183 x5_1 = some r) ∧ Aside0 (kq ≤ k) ∧ Aside0 (Kd.R (Kd.int .u32) 100 w' w.heap.size (fun _ => True) v3 x3_1) ∧ Aside0 (Kd.R (Kd.int .u8) 5 w' w.heap.size (fun _ => True) v184 t183) ∧ Aside0 (Below w.heap.size w w'))
 case atStart => exact ⟨(y180), (0), (by first | rfl | (simp; done) | (simp [*]; done)), H', ⟨Nat.le_refl _⟩, ⟨zr HO182.out⟩, ⟨zr HO185.out⟩, ⟨zb HB.out⟩⟩
 case round =>
  clear H'
  try clear p2
  try clear c5
  obtain ⟨x3_1, x5_1, rfl, HA, HK1, HO_3, HO_4, HB⟩ := hrel
  cases gk with
  | zero => exact absurd HA.out (by simp [rubrickref01_Sum.l0])
  | succ k1 =>
   have H := HA.out
   clear HA
   simp only [rubrickref01_Sum.l0] at H
   by_cases c6 : x5_1 < (t183.length : Int)
   ·rw [if_pos c6] at H
    have c6b0 : decide (x5_1 < (t183.length : Int)) = true := decide_eq_true c6
    clear c6
    by_cases c7 : 0 ≤ x5_1
    ·rw [if_pos c7] at H
     have c7b0 := eq_true c7
     have c7b1 : decide (0 ≤ x5_1) = true := decide_eq_true c7
     clear c7
     by_cases c8 : x5_1 ≤ (wrap64 (x5_1 + 64))
     ·rw [if_pos c8] at H
      have c8b0 := eq_true c8
      have c8b1 : decide (x5_1 ≤ (wrap64 (x5_1 + 64))) = true := decide_eq_true c8
      by_cases c9 : (wrap64 (x5_1 + 64)) ≤ (t183.length : Int)
      ·rw [if_pos c9] at H
       have c9b0 := eq_true c9
       have c9b1 : decide ((wrap64 (x5_1 + 64)) ≤ (t183.length : Int)) = true := decide_eq_true c9
       obtain ⟨y186, hy186⟩ : ∃ y_ : List Int, y_ = ((t183.take ((wrap64 (x5_1 + 64)) : Int).toNat).drop (x5_1 : Int).toNat) := ⟨_, rfl⟩
       replace H : ((rubrickref01_block.f k1 x3_1 y186).bind fun t190 => (rubrickref01_Sum.l0 k1 t190 t183 (wrap64 (x5_1 + 64)))) = some r := by first | (rw [hy186]; with_reducible exact H) | (have H2_ := (Option.bind_some _ _).symm.trans H; rw [hy186]; with_reducible exact H2_) | (have H2_ := (Option.bind_some _ _).symm.trans H; with_reducible exact H2_) | with_reducible exact H | (rw [hy186]; exact H) | exact H
       have Ny186 := Aside0.mk hy186
       clear hy186
       replace H := Option.bind_eq_some_iff.mp H
       obtain ⟨t190, A100, H⟩ := H
       replace H : (rubrickref01_Sum.l0 k1 t190 t183 (wrap64 (x5_1 + 64))) = some r := H
       have A10 := Aside0.mk A100
       clear A100
       have H' := Aside0.mk H
       clear H
       obtain ⟨Ao11, co11, eo11⟩ := Kd.R_slice HO_4.out
       subst eo11
       have q12 : ((wrap64 (x5_1 + 64)) : Int) ≤ ((t183.length : Int) : Int) := of_decide_eq_true (by first | (with_reducible assumption) | assumption)
       obtain ⟨i012, hi012, _, hsz12, _⟩ := info_parts info5
       have hroom12 : t183.length ≤ co11 := (Kd.R_reads' HO_4.out).2.1
       have hC12 : Kd.C (Kd.int .u8) _ Ao11 t183.length t183 := (Kd.R_reads' HO_4.out).2.2
       have ql12 : (x5_1 : Int) ≤ ((wrap64 (x5_1 + 64)) : Int) := of_decide_eq_true (by first | (with_reducible assumption) | assumption)
       have q012 : (0 : Int) ≤ (x5_1 : Int) := of_decide_eq_true (by first | (with_reducible assumption) | assumption)
       have hcut12 := cut_mid (P := Tryd.prog) 41 5 .i64 .i64 Tryd.underlying41 hi012 1 hsz12 Ao11 t183.length co11 x5_1 (wrap64 (x5_1 + 64)) q012 ql12 q12 hroom12
       have hr12 := Kd.C_mid (lo := (x5_1 : Int).toNat) (hi := ((wrap64 (x5_1 + 64)) : Int).toNat) (c := co11) hC12 (by omega) (by omega) hroom12
       obtain ⟨A12, hA12⟩ : ∃ A1, A1 = (if co11 = (x5_1 : Int).toNat then Ao11 else (Ao11 : Option Addr).map (·.add ((x5_1 : Int).toNat * 1))) := ⟨_, rfl⟩
       obtain ⟨c12, hc12⟩ : ∃ c1, c1 = co11 - (x5_1 : Int).toNat := ⟨_, rfl⟩
       have hy12 : y186.length = ((wrap64 (x5_1 + 64)) : Int).toNat - (x5_1 : Int).toNat := (by rw [Ny186.out, List.length_drop, List.length_take] <;> omega)
       rw [show ((t183).take ((wrap64 (x5_1 + 64)) : Int).toNat).drop (x5_1 : Int).toNat = y186 from Ny186.out.symm] at hr12
       replace hr12 : Kd.C (Kd.int .u8) _ A12 y186.length y186 := (by rw [hA12]; exact hr12)
       rw [← hy12, ← hA12, ← hc12] at hcut12
       have HR189 := Aside0.mk hr12
       have HC189 := Aside0.mk (show y186.length ≤ c12 from by rw [hy12, hc12]; exact Nat.sub_le_sub_right (Nat.le_trans (by omega) hroom12) _)
       clear hr12 hC12 hroom12 hi012 hsz12 hc12
       have KY12 := Aside0.mk hy12
       have KA12 := Aside0.mk hA12
       clear hy12 hA12
       have KL12 := Aside0.mk (show ((wrap64 (x5_1 + 64)) : Int).toNat ≤ t183.length from by omega)
       have KM12 := Aside0.mk (show (x5_1 : Int).toNat ≤ ((wrap64 (x5_1 + 64)) : Int).toNat from by omega)
       replace q12 := eq_true q12
       obtain ⟨Ao13, co13, eo13⟩ := Kd.R_slice HO_3.out
       subst eo13
       go_wp2_with (first | ((with_reducible refine gate_callee (f := 85) rfl ?_); refine goesL_ (some 23) rfl rfl Tryd.func85 (by kernel_rfl) rfl #[.slice Ao13 x3_1.length co13, .slice A12 y186.length c12] rfl zm ?_; (with_reducible refine (rubrickref01_block.calls k1 _ _ x3_1 _ _ y186 t190 _ ?side1 ?side2 ?side3 ?side4 A10.out).mono ?_); (case side1 => exact zc (Kd.R_reads' HO_3.out).2.2); (case side2 => exact (Kd.R_reads' HO_3.out).2.1); (case side3 => repeat (first | exact (by repeat (first | (with_reducible exact HR189.out) | (with_reducible refine Kd.C_alloc ?_ _) | (with_reducible refine Kd.C_drewN ?_ _) | (with_reducible refine Kd.C_drew ?_) | exact HR189.out)) | (with_reducible refine Kd.C_alloc ?_ _) | (with_reducible refine Kd.C_drewN ?_ _) | (with_reducible refine Kd.C_drew ?_))); (case side4 => exact HC189.out); rintro e w14 ⟨v191, rfl, ho0, hb⟩; refine ⟨_, rfl, ?_⟩; have n0_ := Aside0.mk (Kd.R_elder' (zr HO_3.out) (Kd.R_base ho0) hb); have n1_ := zR HO_4 hb; have n2_ := Aside0.mk (Kd.R_lower (Kd.R_new' ho0 (Kd.R_lt (zr HO_3.out))) (below_size (zb HB.out))); have n3_ := Aside0.mk (Kd.C_below (by repeat (first | (with_reducible exact HR189.out) | (with_reducible refine Kd.C_alloc ?_ _) | (with_reducible refine Kd.C_drewN ?_ _) | (with_reducible refine Kd.C_drew ?_) | exact HR189.out)) hb); have n4_ := zS HB hb; clear HO_3; clear HO_4; clear HR189; clear HB; have HO_3 := n0_; have HO_4 := n1_; have HO192 := n2_; have HR189 := n3_; have HB := n4_; clear n0_ n1_ n2_ n3_ n4_; (try clear hb); (try clear hb2); (try clear hk); (try clear hi); (try clear ho0)))
       go_roundg k1
       case measure => have := HK1.out; omega
       case rel => exact ⟨(t190), (wrap64 (x5_1 + 64)), (by first | rfl | (simp; done) | (simp [*]; done)), H', ⟨by have := HK1.out; omega⟩, ⟨by (with_reducible repeat (first | apply Kd.R_alloc | apply Kd.R_drewN | apply Kd.R_drew)); exact Kd.R_mono HO192.out (fun _ hk => trivial)⟩, ⟨zr HO_4.out⟩, ⟨zb HB.out⟩⟩
      ·rw [if_neg c9] at H
       exact absurd H (by simp)
     ·rw [if_neg c8] at H
      exact absurd H (by simp)
    ·rw [if_neg c7] at H
     exact absurd H (by simp)
   ·rw [if_neg c6] at H
    have c6b0 : decide (x5_1 < (t183.length : Int)) = false := decide_eq_false c6
    clear c6
    have H' := Aside0.mk H
    clear H
    obtain ⟨Ao15, co15, eo15⟩ := Kd.R_slice HO_4.out
    subst eo15
    go_wp2
    go_loopg [6, 7] k1 (fun kq v6 v7 w' => ∃ (x6_2 : List Int) (x7_2 : Int), v7 = .int .i64 x7_2 ∧ Aside0 (rubrickref01_Sum.l1 kq x3_1 x6_2 x7_2 = some r) ∧ Aside0 (kq ≤ k1) ∧ Aside0 (Kd.R (Kd.int .u32) 100 w' w.heap.size (fun _ => True) u3 x3_1) ∧ Aside0 (Kd.R (Kd.int .u8) 5 w' w.heap.size (fun _ => True) v6 x6_2) ∧ Aside0 (Below w.heap.size w w'))
    case atStart => exact ⟨(([] : List Int)), (0), (by first | rfl | (simp; done) | (simp [*]; done)), H', ⟨Nat.le_refl _⟩, ⟨zr HO_3.out⟩, ⟨by first | exact Kd.R_nil _ _ _ _ _ | exact Kd.N_nil _ _ _ _ _ | exact Kd.V_nil _ _ _ _ _ | exact Kd.Q_nil _ _ _ _ _ | exact Kd.S_nil _ _ _ _ _⟩, ⟨zb HB.out⟩⟩
    case round =>
     clear H'
     try clear c1
     try clear q1
     try clear p2
     try clear c5
     try clear c6
     try clear c6b0
     try clear p6
     try clear c7
     try clear c7b0
     try clear c7b1
     try clear c8
     try clear c8b0
     try clear c8b1
     try clear c9
     try clear c9b0
     try clear c9b1
     try clear c12
     try clear q12
     try clear p2
     try clear q012
     try clear q12
     obtain ⟨x6_2, x7_2, rfl, HA, HK2, HO_3, HO_6, HB⟩ := hrel
     cases gk with
     | zero => exact absurd HA.out (by simp [rubrickref01_Sum.l1])
     | succ k2 =>
      have H := HA.out
      clear HA
      simp only [rubrickref01_Sum.l1] at H
      by_cases c16 : x7_2 < 8
      ·rw [if_pos c16] at H
       have c16b0 : decide (x7_2 < 8) = true := decide_eq_true c16
       clear c16
       by_cases c17 : 0 ≤ x7_2
       ·rw [if_pos c17] at H
        have c17b0 : decide (0 ≤ x7_2) = true := decide_eq_true c17
        clear c17
        by_cases c18 : x7_2 < (x3_1.length : Int)
        ·rw [if_pos c18] at H
         have c18b0 : decide (x7_2 < (x3_1.length : Int)) = true := decide_eq_true c18
         clear c18
         obtain ⟨y197, hy197⟩ : ∃ y_ : List Int, y_ = (([((Int.tdiv (rd x3_1 x7_2) 16777216) % 4294967296) % 256, ((Int.tdiv (rd x3_1 x7_2) 65536) % 4294967296) % 256, ((Int.tdiv (rd x3_1 x7_2) 256) % 4294967296) % 256, (Int.tmod (rd x3_1 x7_2) 256) % 256] : List Int)) := ⟨_, rfl⟩
         replace H : (if x6_2.length + y197.length < 140737488355328 then (rubrickref01_Sum.l1 k2 x3_1 (x6_2 ++ y197) (wrap64 (x7_2 + 1))) else (none)) = some r := by first | (rw [hy197]; with_reducible exact H) | (have H2_ := (Option.bind_some _ _).symm.trans H; rw [hy197]; with_reducible exact H2_) | (have H2_ := (Option.bind_some _ _).symm.trans H; with_reducible exact H2_) | with_reducible exact H | (rw [hy197]; exact H) | exact H
         have Ny197 := Aside0.mk hy197
         clear hy197
         by_cases c19 : x6_2.length + y197.length < 140737488355328
         ·rw [if_pos c19] at H
          have LMc19 := Aside0.mk c19
          clear c19
          obtain ⟨y200, hy200⟩ : ∃ y_ : List Int, y_ = (x6_2 ++ y197) := ⟨_, rfl⟩
          replace H : (rubrickref01_Sum.l1 k2 x3_1 y200 (wrap64 (x7_2 + 1))) = some r := by first | (rw [hy200]; with_reducible exact H) | (have H2_ := (Option.bind_some _ _).symm.trans H; rw [hy200]; with_reducible exact H2_) | (have H2_ := (Option.bind_some _ _).symm.trans H; with_reducible exact H2_) | with_reducible exact H | (rw [hy200]; exact H) | exact H
          have Ny200 := Aside0.mk hy200
          clear hy200
          have H' := Aside0.mk H
          clear H
          try go_wp2
          have n0_ := Aside0.mk (Kd.R_drew HO_3.out)
          have n1_ := Aside0.mk (Kd.R_drew HO_6.out)
          have n2_ := Aside0.mk (below_drew1 HB.out)
          clear HO_3
          clear HO_6
          clear HB
          have HO_3 := n0_
          have HO_6 := n1_
          have HB := n2_
          clear n0_ n1_ n2_
          obtain ⟨Ao21, co21, eo21⟩ := Kd.R_slice HO_3.out
          (first | subst eo21 | (injection eo21 with f1_ f2_ f3_; have f4_ := f1_.symm; have f5_ := f3_.symm; clear f1_ f2_ f3_; subst f4_; subst f5_))
          have p193 : 0 ≤ (x7_2 : Int) := of_decide_eq_true (by first | (with_reducible assumption) | assumption)
          have q193 : x7_2 < (x3_1.length : Int) := of_decide_eq_true (by first | (with_reducible assumption) | assumption)
          obtain ⟨ad193, e193, hx193_0⟩ := Kd.at_int (Kd.R_reads' HO_3.out).2.2 x7_2 p193 q193
          cases e193
          replace p193 := eq_true p193
          replace q193 := eq_true q193
          have p194 : 0 ≤ (x7_2 : Int) := of_decide_eq_true (by first | (with_reducible assumption) | assumption)
          have q194 : x7_2 < (x3_1.length : Int) := of_decide_eq_true (by first | (with_reducible assumption) | assumption)
          obtain ⟨ad194, e194, hx194_0⟩ := Kd.at_int (Kd.R_reads' HO_3.out).2.2 x7_2 p194 q194
          obtain rfl : ad193 = ad194 := (by injection e194)
          replace p194 := eq_true p194
          replace q194 := eq_true q194
          have p195 : 0 ≤ (x7_2 : Int) := of_decide_eq_true (by first | (with_reducible assumption) | assumption)
          have q195 : x7_2 < (x3_1.length : Int) := of_decide_eq_true (by first | (with_reducible assumption) | assumption)
          obtain ⟨ad195, e195, hx195_0⟩ := Kd.at_int (Kd.R_reads' HO_3.out).2.2 x7_2 p195 q195
          obtain rfl : ad193 = ad195 := (by injection e195)
          replace p195 := eq_true p195
          replace q195 := eq_true q195
          have p196 : 0 ≤ (x7_2 : Int) := of_decide_eq_true (by first | (with_reducible assumption) | assumption)
          have q196 : x7_2 < (x3_1.length : Int) := of_decide_eq_true (by first | (with_reducible assumption) | assumption)
          obtain ⟨ad196, e196, hx196_0⟩ := Kd.at_int (Kd.R_reads' HO_3.out).2.2 x7_2 p196 q196
          obtain rfl : ad193 = ad196 := (by injection e196)
          replace p196 := eq_true p196
          replace q196 := eq_true q196
          refine start_ (n := 30) (S := fun w' => w'.cell? (ad193.add (x7_2).toNat) = some (.int .u32 (rd x3_1 x7_2)) ∧ w'.cell? (ad193.add (x7_2).toNat) = some (.int .u32 (rd x3_1 x7_2)) ∧ w'.cell? (ad193.add (x7_2).toNat) = some (.int .u32 (rd x3_1 x7_2)) ∧ w'.cell? (ad193.add (x7_2).toNat) = some (.int .u32 (rd x3_1 x7_2))) (ds := [28]) #[false, false, false, false, false, false, false, false, false, false, false, false, false, false, false, false, false, false, false, false, false, false, false, false, false, false, false, false, false, false] (by kernel_rfl) rfl rfl ⟨hx193_0, hx194_0, hx195_0, hx196_0⟩ (fun hHeld => ?_); refine with_tabW rubrickref01_Sum.tab11 rubrickref01_Sum.bits11 (fun HT_ HW_ => ?_)
          generalize wr.drew = w20 at HO_3 HO_6 HB hx193_0 hx194_0 hx195_0 hx196_0 hHeld ⊢
          refine HBulk.bulkT (fuel := 3) HT_.out HW_.out [(0, some 28, false), (1, some 29, false), (2, some 30, false), (3, some 31, false), (7, some 35, false), (8, some 36, false), (9, some 37, false), (14, some 42, false), (15, some 43, false), (16, some 44, false), (21, some 49, false), (22, some 50, false), (23, some 51, false), (4, some 32, true), (5, some 33, false), (6, some 34, false), (10, some 38, true), (11, some 39, false), (12, some 40, false), (13, some 41, false), (17, some 45, true), (18, some 46, false), (19, some 47, false), (20, some 48, false), (24, some 52, true), (25, some 53, false), (26, some 54, false)] #[true, true, true, true, true, true, true, true, true, true, true, true, true, true, true, true, true, true, true, true, true, true, true, true, true, true, true, false, false, false] (a' := ?_) (by kernel_rfl) rfl hHeld ?_ ?_
          rotate_left
          ·repeat
            refine HBulk.RunsM.cons (v := ?_) (a1 := ?_) rfl rfl (fun _ _ _ h => h) (by rfl) ?_ ?_ ?_
            rotate_left
            ·intro w' hS_; (try (obtain ⟨s0, s1, s2, s3⟩ := hS_ rfl))
             go_simp
             with_reducible rfl
            rotate_left
            ·simp only [Act.put, List.setIfInBounds_toArray, List.set_cons_zero, List.set_cons_succ, i64_w, i32_w]
             rfl
           exact HBulk.RunsM.nil
          refine one_ (i := 27) (N := some 55) #[true, true, true, true, true, true, true, true, true, true, true, true, true, true, true, true, true, true, true, true, true, true, true, true, true, true, true, true, false, false] rfl rfl (one_of HT_.out (by kernel_rfl)) (by decide) (fun K hK => ?_)
          refine Kd.R_lit_step (Kd.int .u8) _ 5 ?hg (N := 55) ?hd (xs := ([((Int.tdiv (rd x3_1 x7_2) 16777216) % 4294967296) % 256, ((Int.tdiv (rd x3_1 x7_2) 65536) % 4294967296) % 256, ((Int.tdiv (rd x3_1 x7_2) 256) % 4294967296) % 256, (Int.tmod (rd x3_1 x7_2) 256) % 256] : List Int)) (inner := [.int .u8 (((Int.tdiv (rd x3_1 x7_2) 16777216) % 4294967296) % 256), .int .u8 (((Int.tdiv (rd x3_1 x7_2) 65536) % 4294967296) % 256), .int .u8 (((Int.tdiv (rd x3_1 x7_2) 256) % 4294967296) % 256), .int .u8 ((Int.tmod (rd x3_1 x7_2) 256) % 256)]) (ok := fun _ => True) (okp := fun _ => True) ?hr ?hp (fun _ hk => hk) trivial (Below.refl _ _) (Nat.le_refl _) (by simp) ?_; (case hd => rfl); (case hg => rfl); (case hr => first | (go_simp; done) | (go_simp; rfl) | (go_simp; simp only [IntKind.wrap_u8, IntKind.wrap_u32, Int.tmod_eq_emod_of_nonneg (Int.emod_nonneg _ (by decide : (4294967296 : Int) ≠ 0)), Int.emod_emod_of_dvd _ (show (256 : Int) ∣ 4294967296 by decide), Int.emod_emod])); (case hp => exact (Reps.one (show Kd.M (Kd.int .u8) _ _ _ (((Int.tdiv (rd x3_1 x7_2) 16777216) % 4294967296) % 256) [.int .u8 (((Int.tdiv (rd x3_1 x7_2) 16777216) % 4294967296) % 256)] from rfl) (Reps.one (show Kd.M (Kd.int .u8) _ _ _ (((Int.tdiv (rd x3_1 x7_2) 65536) % 4294967296) % 256) [.int .u8 (((Int.tdiv (rd x3_1 x7_2) 65536) % 4294967296) % 256)] from rfl) (Reps.one (show Kd.M (Kd.int .u8) _ _ _ (((Int.tdiv (rd x3_1 x7_2) 256) % 4294967296) % 256) [.int .u8 (((Int.tdiv (rd x3_1 x7_2) 256) % 4294967296) % 256)] from rfl) (Reps.one (show Kd.M (Kd.int .u8) _ _ _ ((Int.tmod (rd x3_1 x7_2) 256) % 256) [.int .u8 ((Int.tmod (rd x3_1 x7_2) 256) % 256)] from rfl) (Reps.none _ _))))))
          intro v198 w22 ho23 hb hg_ hnew_
          have HS0_ := (hb.cell (World.block_lt_of_cell? _ _ (hHeld.1))).trans (hHeld.1)
          have HS1_ := (hb.cell (World.block_lt_of_cell? _ _ (hHeld.2.1))).trans (hHeld.2.1)
          have HS2_ := (hb.cell (World.block_lt_of_cell? _ _ (hHeld.2.2.1))).trans (hHeld.2.2.1)
          have HS3_ := (hb.cell (World.block_lt_of_cell? _ _ (hHeld.2.2.2))).trans (hHeld.2.2.2)
          clear hg_ hnew_
          (first | rw [← Ny197.out] at ho23 | (simp only [Int.reduceToNat] at ho23; rw [← Ny197.out] at ho23))
          have n0_ := zR HO_3 hb
          have n1_ := Aside0.mk (Kd.R_elder' (zr HO_6.out) (Kd.R_base ho23) hb)
          have n2_ := Aside0.mk (Kd.R_lower (Kd.R_new' ho23 (Kd.R_lt (zr HO_6.out))) (below_size (zb HB.out)))
          have n3_ := zS HB hb
          clear HO_3
          clear HO_6
          clear HB
          have HO_3 := n0_
          have HO_6 := n1_
          have HO199 := n2_
          have HB := n3_
          clear n0_ n1_ n2_ n3_
          clear hb ho23
          obtain ⟨Ao25, co25, eo25⟩ := Kd.R_slice HO199.out
          (first | subst eo25 | (injection eo25 with f1_ f2_ f3_; have f4_ := f1_.symm; have f5_ := f3_.symm; clear f1_ f2_ f3_; subst f4_; subst f5_))
          refine hK.out _ _ ⟨HS0_, HS1_, HS2_, HS3_⟩ (fun hHeld => ?_)
          clear hK K
          refine norm_ (a' := ?_) ?_ ?_
          rotate_left
          ·show Act.put _ (some 55) _ = _
           simp only [Act.put, List.setIfInBounds_toArray, List.set_cons_zero, List.set_cons_succ, i64_w, i32_w]
           rfl
          refine last_ (i := 28) (N := some 56) #[true, true, true, true, true, true, true, true, true, true, true, true, true, true, true, true, true, true, true, true, true, true, true, true, true, true, true, true, true, false] rfl rfl (one_of HT_.out (by kernel_rfl)) (by decide) (fun K hK => ?_)
          refine Kd.R_append_rows_step (Kd.int .u8) (w0 := w) w.heap.size (by rfl) (.tmp 28) (.tmp 55) 41 5 (.int .u8 0) 1 rfl Tryd.underlying41 info5 rfl (by decide) (by omega) u6 x6_2 y197 _ _ _ (fun k_ => some k_ ≠ (.slice Ao25 y197.length co25 : Value).ownBlock) (fun _ => False) rfl rfl ?aO ?aR (fun _ _ h => h) (fun _ h => h.elim) ?aF ?aB ?aS ?aL ?_
          (case aR => exact zc (Kd.R_reads' HO199.out).2.2)
          (case aB => exact (zb HB.out))
          (case aF => exact (fun k_ hk => Kd.fresh' (Kd.R_lt (zr HO199.out)) k_ hk))
          (case aO => exact (by (with_reducible repeat (first | apply Kd.R_alloc | apply Kd.R_drewN | apply Kd.R_drew)); exact Kd.R_mono HO_6.out (fun _ hk => hk.2)))
          (case aS => exact (below_size (zb HB.out)))
          (case aL => have := LMc19.out; omega)
          intro v201 w24 ho hb hg hat
          rw [← Ny200.out] at ho
          have n0_ := Aside0.mk (Kd.R_over' (zr HO_3.out) (Kd.R_typed (zr HO_6.out)) (by decide) hg)
          have n1_ := Aside0.mk (Kd.R_after (ok := (fun _ => True)) (zr HO199.out) hg hat)
          have n2_ := Aside0.mk (hb)
          have n3_ := Aside0.mk (ho)
          clear HO_3
          clear HO199
          clear HB
          clear HO_6
          have HO_3 := n0_
          have HO199 := n1_
          have HB := n2_
          have HO202 := n3_
          clear n0_ n1_ n2_ n3_
          clear ho hb hg hat
          refine hK.out _ _ ?_
          clear hK K
          refine norm_ (a' := ?_) ?_ ?_
          rotate_left
          ·show Act.put _ (some 56) _ = _
           simp only [Act.put, List.setIfInBounds_toArray, List.set_cons_zero, List.set_cons_succ, i64_w, i32_w]
           rfl
          refine pure_ (i := 29) (N := some 6) (v := ?_) (a' := ?_) #[true, true, true, true, true, true, true, true, true, true, true, true, true, true, true, true, true, true, true, true, true, true, true, true, true, true, true, true, true, true] rfl rfl (any_of HT_.out (by kernel_rfl)) (fun _ _ _ h => h) (Or.inl ⟨by rfl, ?_⟩) ?_ ?_
          rotate_left
          ·intro w'
           go_simp
           with_reducible rfl
          rotate_left
          ·simp only [Act.put, List.setIfInBounds_toArray, List.set_cons_zero, List.set_cons_succ, i64_w, i32_w]
           rfl
          refine done_ (done_of HT_.out (by kernel_rfl)) ?_
          try go_wp2
          go_roundg k2
          case measure => have := HK1.out; have := HK2.out; omega
          case rel => exact ⟨(y200), (wrap64 (x7_2 + 1)), (by first | rfl | (simp; done) | (simp [*]; done)), H', ⟨by have := HK1.out; have := HK2.out; omega⟩, ⟨zr HO_3.out⟩, ⟨by (with_reducible repeat (first | apply Kd.R_alloc | apply Kd.R_drewN | apply Kd.R_drew)); exact Kd.R_mono HO202.out (fun _ hk => trivial)⟩, ⟨zb HB.out⟩⟩
         ·rw [if_neg c19] at H
          exact absurd H (by simp)
        ·rw [if_neg c18] at H
         exact absurd H (by simp)
       ·rw [if_neg c17] at H
        exact absurd H (by simp)
      ·rw [if_neg c16] at H
       have c16b0 : decide (x7_2 < 8) = false := decide_eq_false c16
       clear c16
       obtain rfl := Option.some.inj H
       have hcv26 := own_string (P := Tryd.prog) Tryd.underlying41 Tryd.underlying5 Tryd.underlying9 (Kd.own_of_R HO_6.out)
       have hcw26 := fun n_ : Nat => own_string (P := Tryd.prog) Tryd.underlying41 Tryd.underlying5 Tryd.underlying9 (Kd.own_of_R (Kd.R_drewN HO_6.out n_))
       go_wp2
       go_ret
       exact ⟨by first | rfl | (simp [errW_none, errW_some] <;> rfl) | (simp [*, errW_none, errW_some] <;> rfl), zb HB.out⟩
end Go.Proofs.YtpmefpdafkbphaaDoor.PR

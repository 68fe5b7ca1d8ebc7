import Derived.Test.YtpmefpdafkbphaaDoorZrHZ
import Derived.Test.YtpmefpdafkbphaaDoorZrHBulk
import Derived.Test.YtpmefpdafkbphaaDoorZrPQ0
-- PRINTED by print.py (a twelfth state) out of the translation. Not trusted: Lean checks it.
namespace Go.Proofs.YtpmefpdafkbphaaDoor.PQ
open Go.Proofs.YtpmefpdafkbphaaDoor.HZ Go.RowKit Go.Proofs.YtpmefpdafkbphaaDoor Go.Proofs.YtpmefpdafkbphaaDoor.HSha Go.Proofs.YtpmefpdafkbphaaDoor.PS Go.Proofs.YtpmefpdafkbphaaDoor.PR Go.Proofs.YtpmefpdafkbphaaDoor.PT Go.Proofs.YtpmefpdafkbphaaDoor.PB Go.Proofs.YtpmefpdafkbphaaDoor.HNode Go.Proofs.YtpmefpdafkbphaaDoor.PC Go.Proofs.YtpmefpdafkbphaaDoor.HBytes8 Go.Proofs.YtpmefpdafkbphaaDoorW.PrintWords Go.Proofs.YtpmefpdafkbphaaDoorW.PrintLast Go.Proofs.YtpmefpdafkbphaaDoorW.PrintMore
attribute [local go_sem] max2_int min2_int max_two min_two max_three min_three max_four min_four   -- for this text's walks alone
set_option linter.unusedVariables false
set_option linter.unusedSimpArgs false
/-! ### clash_Leaf: function 27 -/
mutual
def clash_Leaf.l0 : Nat → List Int → List ByteArray → List ByteArray → List (S77) → Int → Int → Int → Int → Int → Option (List Int × List Int × Bool)
 | 0, _, _, _, _, _, _, _, _, _ => none
 | k + 1, x2, x3, x10, x13, x14, x15, x16, x62, x63 => if x63 < x62 then ((tree_Split.f k (wrap64 (x16 - x15))).bind fun t147 => (if 0 ≤ x15 then (if x15 ≤ x16 then (if x16 ≤ (x10.length : Int) then ((some ((x10.take (x16 : Int).toNat).drop (x15 : Int).toNat : List ByteArray)).bind fun y148 => (if ((wrap64 (x14 - x15)) < t147) then (clash_Leaf.j1 k x2 x3 x10 x13 x14 x15 x16 x63 (wrap64 ((wrap64 ((x3.length : Int) - 1)) - x63)) t147 y148 (decide ((wrap64 (x14 - x15)) < t147)) (wrap64 (x14 - x15)) t147 x62 x63) else (clash_Leaf.j1 k x2 x3 x10 x13 x14 x15 x16 x63 (wrap64 ((wrap64 ((x3.length : Int) - 1)) - x63)) t147 y148 (decide ((wrap64 (x14 - x15)) < t147)) (wrap64 ((wrap64 (x14 - x15)) - t147)) (wrap64 ((wrap64 (x16 - x15)) - t147)) x62 x63))) else (none)) else (none)) else (none))) else ((clash_first.f k x13).bind fun bt140 => (some (bt140.1, bt140.2.1, bt140.2.2)))
def clash_Leaf.j1 : Nat → List Int → List ByteArray → List ByteArray → List (S77) → Int → Int → Int → Int → Int → Int → List ByteArray → Bool → Int → Int → Int → Int → Option (List Int × List Int × Bool)
 | 0, _, _, _, _, _, _, _, _, _, _, _, _, _, _, _, _ => none
 | k + 1, x2, x3, x10, x13, x14, x15, x16, x17, x18, x19, x20, x21, x22, x23, x62, x63 => (seal_Leaf.f k x2).bind fun t153 => (if 0 ≤ x18 then (if x18 ≤ (x3.length : Int) then ((tree_Climb.f k t153 x22 x23 (x3.take (x18 : Int).toNat)).bind fun bt155 => (if x18 < (x3.length : Int) then ((seal_NodeBytes.f k bt155.1 (rdOf ByteArray.empty x3 x18)).bind fun t158 => (if x21 = true then ((clash_halves.f k x20).bind fun t161 => (if 0 ≤ x17 then (if x17 < (x13.length : Int) then (clash_Leaf.l0 k x2 x3 x10 (x13.set (x17 : Int).toNat (⟨t158, t161⟩ : S77)) x14 x15 (wrap64 (x15 + x19)) x62 (wrap64 (x63 + 1))) else (none)) else (none))) else ((seal_NodeBytes.f k (rdOf ByteArray.empty x3 x18) bt155.1).bind fun t166 => ((clash_halves.f k x20).bind fun t169 => (if 0 ≤ x17 then (if x17 < (x13.length : Int) then (clash_Leaf.l0 k x2 x3 x10 (x13.set (x17 : Int).toNat (⟨t166, t169⟩ : S77)) x14 (wrap64 (x15 + x19)) x16 x62 (wrap64 (x63 + 1))) else (none)) else (none)))))) else (none))) else (none)) else (none))
end
def clash_Leaf.f (k : Nat) (l0 : List (List Int)) (a1 : Int) (l2 : List Int) (l3 : List ByteArray) : Option (List Int × List Int × Bool) := (tree_Leaves.f k l0).bind fun t123 => ((seal_Leaf.f k l2).bind fun t126 => ((tree_Climb.f k t126 a1 (l0.length : Int) l3).bind fun bt127 => (if bt127.2 = 0 then (if 0 ≤ (wrap64 ((l3.length : Int) + 1)) then (if (wrap64 ((l3.length : Int) + 1) : Int).toNat ≤ 5864062014805 then ((some (List.replicate (wrap64 ((l3.length : Int) + 1) : Int).toNat z77 : List (S77))).bind fun y129 => ((seal_LeafBytes.f k l2).bind fun t132 => (if 0 ≤ a1 then (if a1 < (l0.length : Int) then ((seal_LeafBytes.f k (rd_L2 l0 a1)).bind fun t136 => (if 0 ≤ (l3.length : Int) then (if (l3.length : Int) < (y129.length : Int) then (clash_Leaf.l0 k l2 l3 t123 (y129.set ((l3.length : Int) : Int).toNat (⟨t132, t136⟩ : S77)) a1 0 (l0.length : Int) (l3.length : Int) 0) else (none)) else (none))) else (none)) else (none)))) else (none)) else (none)) else (some (([] : List Int), ([] : List Int), false)))))
theorem clash_Leaf.mono_l : ∀ k, (∀ y0 y1 y2 y3 y4 y5 y6 y7 y8, LeO (clash_Leaf.l0 k y0 y1 y2 y3 y4 y5 y6 y7 y8) (clash_Leaf.l0 (k + 1) y0 y1 y2 y3 y4 y5 y6 y7 y8)) ∧ (∀ y0 y1 y2 y3 y4 y5 y6 y7 y8 y9 y10 y11 y12 y13 y14 y15, LeO (clash_Leaf.j1 k y0 y1 y2 y3 y4 y5 y6 y7 y8 y9 y10 y11 y12 y13 y14 y15) (clash_Leaf.j1 (k + 1) y0 y1 y2 y3 y4 y5 y6 y7 y8 y9 y10 y11 y12 y13 y14 y15))
 | 0 => ⟨fun _ _ _ _ _ _ _ _ _ r h => by simp [clash_Leaf.l0] at h, fun _ _ _ _ _ _ _ _ _ _ _ _ _ _ _ _ r h => by simp [clash_Leaf.j1] at h⟩
 | k + 1 => by
  obtain ⟨ih0, ih1⟩ := clash_Leaf.mono_l k
  refine ⟨?_, ?_⟩
  ·intro y0 y1 y2 y3 y4 y5 y6 y7 y8
   unfold clash_Leaf.l0
   repeat' first
   | (with_reducible exact ih0 _ _ _ _ _ _ _ _ _)
   | (with_reducible exact ih1 _ _ _ _ _ _ _ _ _ _ _ _ _ _ _ _)
   | (with_reducible exact clash_first.mono _ _)
   | (with_reducible exact clash_halves.mono _ _)
   | (with_reducible exact seal_Leaf.mono _ _)
   | (with_reducible exact seal_LeafBytes.mono _ _)
   | (with_reducible exact seal_NodeBytes.mono _ _ _)
   | (with_reducible exact tree_Climb.mono _ _ _ _ _)
   | (with_reducible exact tree_Leaves.mono _ _)
   | (with_reducible exact tree_Split.mono _ _)
   | (with_reducible exact LeO.refl _)
   | (with_reducible exact LeO.none _)
   | (with_reducible refine LeO.ite ?_ ?_)
   | (with_reducible refine LeO.bind ?_ (fun _ => ?_))
  ·intro y0 y1 y2 y3 y4 y5 y6 y7 y8 y9 y10 y11 y12 y13 y14 y15
   unfold clash_Leaf.j1
   repeat' first
   | (with_reducible exact ih0 _ _ _ _ _ _ _ _ _)
   | (with_reducible exact ih1 _ _ _ _ _ _ _ _ _ _ _ _ _ _ _ _)
   | (with_reducible exact clash_first.mono _ _)
   | (with_reducible exact clash_halves.mono _ _)
   | (with_reducible exact seal_Leaf.mono _ _)
   | (with_reducible exact seal_LeafBytes.mono _ _)
   | (with_reducible exact seal_NodeBytes.mono _ _ _)
   | (with_reducible exact tree_Climb.mono _ _ _ _ _)
   | (with_reducible exact tree_Leaves.mono _ _)
   | (with_reducible exact tree_Split.mono _ _)
   | (with_reducible exact LeO.refl _)
   | (with_reducible exact LeO.none _)
   | (with_reducible refine LeO.ite ?_ ?_)
   | (with_reducible refine LeO.bind ?_ (fun _ => ?_))
theorem clash_Leaf.mono : ∀ a0 a1 a2 a3 k, LeO (clash_Leaf.f k a0 a1 a2 a3) (clash_Leaf.f (k + 1) a0 a1 a2 a3) := by
 intro a0 a1 a2 a3 k
 obtain ⟨ih0, ih1⟩ := clash_Leaf.mono_l k
 unfold clash_Leaf.f
 repeat' first
   | (with_reducible exact ih0 _ _ _ _ _ _ _ _ _)
   | (with_reducible exact ih1 _ _ _ _ _ _ _ _ _ _ _ _ _ _ _ _)
   | (with_reducible exact clash_first.mono _ _)
   | (with_reducible exact clash_halves.mono _ _)
   | (with_reducible exact seal_Leaf.mono _ _)
   | (with_reducible exact seal_LeafBytes.mono _ _)
   | (with_reducible exact seal_NodeBytes.mono _ _ _)
   | (with_reducible exact tree_Climb.mono _ _ _ _ _)
   | (with_reducible exact tree_Leaves.mono _ _)
   | (with_reducible exact tree_Split.mono _ _)
   | (with_reducible exact LeO.refl _)
   | (with_reducible exact LeO.none _)
   | (with_reducible refine LeO.ite ?_ ?_)
   | (with_reducible refine LeO.bind ?_ (fun _ => ?_))
def clash_Leaf.T6 : Bool × List (List Nat × List Nat) := (true, [([], []), ([], []), ([1], [1]), ([], []), ([3], [3]), ([], []), ([], []), ([5, 6], [5, 6]), ([7], [7]), ([8, 4], [8]), ([4, 9], [4, 9]), ([0, 2, 0, 1, 2, 3, 4, 5, 6, 7, 8, 9, 10], [0, 2]), ([11, 10, 9, 0, 1, 2, 3, 4, 5, 6, 7, 8, 9, 10], [10, 11])])
def clash_Leaf.B6 : List Nat := [0, 0, 2, 0, 8, 0, 0, 96, 224, 504, 1016, 2047, 4095]
theorem clash_Leaf.tab6 : rtab .any (opsOf Tryd.f27 6) = clash_Leaf.T6 := by kernel_rfl
theorem clash_Leaf.bits6 : waitsOk clash_Leaf.T6.2 clash_Leaf.B6 = true := by kernel_rfl
def clash_Leaf.T18 : Bool × List (List Nat × List Nat) := (true, [([], []), ([0], [0]), ([], []), ([], []), ([], []), ([], []), ([4, 5], [4, 5]), ([1, 2, 3, 6, 1], [1, 2, 3, 6]), ([7], [7]), ([8], [8]), ([8], [8]), ([9, 7, 0, 1, 2, 3, 4, 5, 6, 7, 8, 9], [9]), ([10, 11, 0, 1, 2, 3, 4, 5, 6, 7, 8, 9, 10, 11], [10])])
def clash_Leaf.B18 : List Nat := [0, 1, 0, 0, 0, 0, 48, 127, 255, 511, 511, 1023, 4095]
theorem clash_Leaf.tab18 : rtab .any (opsOf Tryd.f27 18) = clash_Leaf.T18 := by kernel_rfl
theorem clash_Leaf.bits18 : waitsOk clash_Leaf.T18.2 clash_Leaf.B18 = true := by kernel_rfl
set_option maxHeartbeats 8000000 in
set_option maxRecDepth 100000 in
theorem clash_Leaf.calls (k : Nat) (A0 : Option Addr) (c0 : Nat) (l0 : List (List Int)) (a1 : Int) (A2 : Option Addr) (c2 : Nat) (l2 : List Int) (A3 : Option Addr) (c3 : Nat) (l3 : List ByteArray) (r1 : List Int) (r2 : List Int) (r3 : Bool) (w : World) (hG_ : Aside0 (GW w)) (hr0 : Kd.C (Kd.slice 5 (Kd.int .u8)) w A0 l0.length l0) (hc0 : l0.length ≤ c0) (hr2 : Kd.C (Kd.int .u8) w A2 l2.length l2) (hc2 : l2.length ≤ c2) (hr3 : Kd.C Kd.string w A3 l3.length l3) (hc3 : l3.length ≤ c3) (h : clash_Leaf.f k l0 a1 l2 l3 = some (r1, r2, r3)) :
  Calls Tryd.prog 27 #[.slice A0 l0.length c0, .int .i64 a1, .slice A2 l2.length c2, .slice A3 l3.length c3] w fun e w' => ∃ v0_ v1_ : Value, e = .returned (.tuple #[.agg #[v0_, v1_], .bool r3]) ∧ Kd.R (Kd.int .u8) 5 w' w.heap.size (fun k_ => some k_ ≠ (v1_ : Value).ownBlock) v0_ r1 ∧ Kd.R (Kd.int .u8) 5 w' w.heap.size (fun k_ => some k_ ≠ (v0_ : Value).ownBlock) v1_ r2 ∧ Below w.heap.size w w' := by
 have hu44 := Tryd.underlying44
 have hu77 := Tryd.underlying77
 have HR0 := Aside0.mk hr0
 have HC0 := Aside0.mk hc0
 clear hr0 hc0
 have HR2 := Aside0.mk hr2
 have HC2 := Aside0.mk hc2
 clear hr2 hc2
 have HR3 := Aside0.mk hr3
 have HC3 := Aside0.mk hc3
 clear hr3 hc3
 have HB := Aside0.mk (Below.refl w.heap.size w)
 have H : ((tree_Leaves.f k l0).bind fun t123 => ((seal_Leaf.f k l2).bind fun t126 => ((tree_Climb.f k t126 a1 (l0.length : Int) l3).bind fun bt127 => (if bt127.2 = 0 then (if 0 ≤ (wrap64 ((l3.length : Int) + 1)) then (if (wrap64 ((l3.length : Int) + 1) : Int).toNat ≤ 5864062014805 then ((some (List.replicate (wrap64 ((l3.length : Int) + 1) : Int).toNat z77 : List (S77))).bind fun y129 => ((seal_LeafBytes.f k l2).bind fun t132 => (if 0 ≤ a1 then (if a1 < (l0.length : Int) then ((seal_LeafBytes.f k (rd_L2 l0 a1)).bind fun t136 => (if 0 ≤ (l3.length : Int) then (if (l3.length : Int) < (y129.length : Int) then (clash_Leaf.l0 k l2 l3 t123 (y129.set ((l3.length : Int) : Int).toNat (⟨t132, t136⟩ : S77)) a1 0 (l0.length : Int) (l3.length : Int) 0) else (none)) else (none))) else (none)) else (none)))) else (none)) else (none)) else (some (([] : List Int), ([] : List Int), false)))))) = some (r1, r2, r3) := h
 clear h
 replace H := Option.bind_eq_some_iff.mp H
 obtain ⟨t123, A50, H⟩ := H
 replace H : ((seal_Leaf.f k l2).bind fun t126 => ((tree_Climb.f k t126 a1 (l0.length : Int) l3).bind fun bt127 => (if bt127.2 = 0 then (if 0 ≤ (wrap64 ((l3.length : Int) + 1)) then (if (wrap64 ((l3.length : Int) + 1) : Int).toNat ≤ 5864062014805 then ((some (List.replicate (wrap64 ((l3.length : Int) + 1) : Int).toNat z77 : List (S77))).bind fun y129 => ((seal_LeafBytes.f k l2).bind fun t132 => (if 0 ≤ a1 then (if a1 < (l0.length : Int) then ((seal_LeafBytes.f k (rd_L2 l0 a1)).bind fun t136 => (if 0 ≤ (l3.length : Int) then (if (l3.length : Int) < (y129.length : Int) then (clash_Leaf.l0 k l2 l3 t123 (y129.set ((l3.length : Int) : Int).toNat (⟨t132, t136⟩ : S77)) a1 0 (l0.length : Int) (l3.length : Int) 0) else (none)) else (none))) else (none)) else (none)))) else (none)) else (none)) else (some (([] : List Int), ([] : List Int), false))))) = some (r1, r2, r3) := H
 have A5 := Aside0.mk A50
 clear A50
 replace H := Option.bind_eq_some_iff.mp H
 obtain ⟨t126, A60, H⟩ := H
 replace H : ((tree_Climb.f k t126 a1 (l0.length : Int) l3).bind fun bt127 => (if bt127.2 = 0 then (if 0 ≤ (wrap64 ((l3.length : Int) + 1)) then (if (wrap64 ((l3.length : Int) + 1) : Int).toNat ≤ 5864062014805 then ((some (List.replicate (wrap64 ((l3.length : Int) + 1) : Int).toNat z77 : List (S77))).bind fun y129 => ((seal_LeafBytes.f k l2).bind fun t132 => (if 0 ≤ a1 then (if a1 < (l0.length : Int) then ((seal_LeafBytes.f k (rd_L2 l0 a1)).bind fun t136 => (if 0 ≤ (l3.length : Int) then (if (l3.length : Int) < (y129.length : Int) then (clash_Leaf.l0 k l2 l3 t123 (y129.set ((l3.length : Int) : Int).toNat (⟨t132, t136⟩ : S77)) a1 0 (l0.length : Int) (l3.length : Int) 0) else (none)) else (none))) else (none)) else (none)))) else (none)) else (none)) else (some (([] : List Int), ([] : List Int), false)))) = some (r1, r2, r3) := H
 have A6 := Aside0.mk A60
 clear A60
 replace H := Option.bind_eq_some_iff.mp H
 obtain ⟨⟨t127, t128⟩, A70, H⟩ := H
 replace H : (if t128 = 0 then (if 0 ≤ (wrap64 ((l3.length : Int) + 1)) then (if (wrap64 ((l3.length : Int) + 1) : Int).toNat ≤ 5864062014805 then ((some (List.replicate (wrap64 ((l3.length : Int) + 1) : Int).toNat z77 : List (S77))).bind fun y129 => ((seal_LeafBytes.f k l2).bind fun t132 => (if 0 ≤ a1 then (if a1 < (l0.length : Int) then ((seal_LeafBytes.f k (rd_L2 l0 a1)).bind fun t136 => (if 0 ≤ (l3.length : Int) then (if (l3.length : Int) < (y129.length : Int) then (clash_Leaf.l0 k l2 l3 t123 (y129.set ((l3.length : Int) : Int).toNat (⟨t132, t136⟩ : S77)) a1 0 (l0.length : Int) (l3.length : Int) 0) else (none)) else (none))) else (none)) else (none)))) else (none)) else (none)) else (some (([] : List Int), ([] : List Int), false))) = some (r1, r2, r3) := H
 have A7 := Aside0.mk A70
 clear A70
 by_cases c8 : t128 = 0
 ·rw [if_pos c8] at H
  have c8b0 : (t128 == 0) = true := beq_iff_eq.mpr c8
  have c8b1 : (t128 != 0) = false := bne_eq_false_iff_eq.mpr c8
  clear c8
  obtain ⟨ji9, hji9⟩ : ∃ j_ : Int, (wrap64 ((l3.length : Int) + 1)) = j_ := ⟨_, rfl⟩
  replace H : (if 0 ≤ (ji9) then (if (ji9 : Int).toNat ≤ 5864062014805 then ((some (List.replicate (ji9 : Int).toNat z77 : List (S77))).bind fun y129 => ((seal_LeafBytes.f k l2).bind fun t132 => (if 0 ≤ a1 then (if a1 < (l0.length : Int) then ((seal_LeafBytes.f k (rd_L2 l0 a1)).bind fun t136 => (if 0 ≤ (l3.length : Int) then (if (l3.length : Int) < (y129.length : Int) then (clash_Leaf.l0 k l2 l3 t123 (y129.set ((l3.length : Int) : Int).toNat (⟨t132, t136⟩ : S77)) a1 0 (l0.length : Int) (l3.length : Int) 0) else (none)) else (none))) else (none)) else (none)))) else (none)) else (none)) = some (r1, r2, r3) := by first | (rw [hji9] at H; exact H) | (simp only [hji9] at H ⊢; exact H)
  (try rw [hji9] at A5)
  (try rw [hji9] at A6)
  (try rw [hji9] at A7)
  have hji9w : (IntKind.i64.wrap ((l3.length : Int) + 1)) = ji9 := (i64_w _).trans hji9
  by_cases c10 : 0 ≤ (ji9)
  ·rw [if_pos c10] at H
   have c10b0 := eq_true c10
   have c10b1 : decide (0 ≤ (ji9)) = true := decide_eq_true c10
   clear c10
   by_cases c11 : (ji9 : Int).toNat ≤ 5864062014805
   ·rw [if_pos c11] at H
    have c11b0 := eq_true c11
    have c11b1 : decide ((ji9 : Int).toNat ≤ 5864062014805) = true := decide_eq_true c11
    clear c11
    obtain ⟨y129, hy129⟩ : ∃ y_ : List (S77), y_ = (List.replicate (ji9 : Int).toNat z77) := ⟨_, rfl⟩
    replace H : ((seal_LeafBytes.f k l2).bind fun t132 => (if 0 ≤ a1 then (if a1 < (l0.length : Int) then ((seal_LeafBytes.f k (rd_L2 l0 a1)).bind fun t136 => (if 0 ≤ (l3.length : Int) then (if (l3.length : Int) < (y129.length : Int) then (clash_Leaf.l0 k l2 l3 t123 (y129.set ((l3.length : Int) : Int).toNat (⟨t132, t136⟩ : S77)) a1 0 (l0.length : Int) (l3.length : Int) 0) else (none)) else (none))) else (none)) else (none))) = some (r1, r2, r3) := by first | (rw [hy129]; with_reducible exact H) | (have H2_ := (Option.bind_some _ _).symm.trans H; rw [hy129]; with_reducible exact H2_) | (have H2_ := (Option.bind_some _ _).symm.trans H; with_reducible exact H2_) | with_reducible exact H | (rw [hy129]; exact H) | exact H
    have Ny129 := Aside0.mk hy129
    clear hy129
    replace H := Option.bind_eq_some_iff.mp H
    obtain ⟨t132, A120, H⟩ := H
    replace H : (if 0 ≤ a1 then (if a1 < (l0.length : Int) then ((seal_LeafBytes.f k (rd_L2 l0 a1)).bind fun t136 => (if 0 ≤ (l3.length : Int) then (if (l3.length : Int) < (y129.length : Int) then (clash_Leaf.l0 k l2 l3 t123 (y129.set ((l3.length : Int) : Int).toNat (⟨t132, t136⟩ : S77)) a1 0 (l0.length : Int) (l3.length : Int) 0) else (none)) else (none))) else (none)) else (none)) = some (r1, r2, r3) := H
    have A12 := Aside0.mk A120
    clear A120
    by_cases c13 : 0 ≤ a1
    ·rw [if_pos c13] at H
     have c13b0 : decide (0 ≤ a1) = true := decide_eq_true c13
     clear c13
     by_cases c14 : a1 < (l0.length : Int)
     ·rw [if_pos c14] at H
      have c14b0 : decide (a1 < (l0.length : Int)) = true := decide_eq_true c14
      clear c14
      replace H := Option.bind_eq_some_iff.mp H
      obtain ⟨t136, A150, H⟩ := H
      replace H : (if 0 ≤ (l3.length : Int) then (if (l3.length : Int) < (y129.length : Int) then (clash_Leaf.l0 k l2 l3 t123 (y129.set ((l3.length : Int) : Int).toNat (⟨t132, t136⟩ : S77)) a1 0 (l0.length : Int) (l3.length : Int) 0) else (none)) else (none)) = some (r1, r2, r3) := H
      have A15 := Aside0.mk A150
      clear A150
      by_cases c16 : 0 ≤ (l3.length : Int)
      ·rw [if_pos c16] at H
       have c16b0 : decide (0 ≤ (l3.length : Int)) = true := decide_eq_true c16
       have c16b1 : decide (0 ≤ l3.length) = true := decide_eq_true (by omega)
       clear c16
       by_cases c17 : (l3.length : Int) < (y129.length : Int)
       ·rw [if_pos c17] at H
        have c17b0 : decide ((l3.length : Int) < (y129.length : Int)) = true := decide_eq_true c17
        have c17b1 : decide (l3.length < y129.length) = true := decide_eq_true (Int.ofNat_lt.mp c17)
        clear c17
        obtain ⟨y139, hy139⟩ : ∃ y_ : List (S77), y_ = (y129.set ((l3.length : Int) : Int).toNat (⟨t132, t136⟩ : S77)) := ⟨_, rfl⟩
        replace H : (clash_Leaf.l0 k l2 l3 t123 y139 a1 0 (l0.length : Int) (l3.length : Int) 0) = some (r1, r2, r3) := by first | (rw [hy139]; with_reducible exact H) | (have H2_ := (Option.bind_some _ _).symm.trans H; rw [hy139]; with_reducible exact H2_) | (have H2_ := (Option.bind_some _ _).symm.trans H; with_reducible exact H2_) | with_reducible exact H | (rw [hy139]; exact H) | exact H
        have Ny139 := Aside0.mk hy139
        clear hy139
        have H' := Aside0.mk H
        clear H
        go_enter Tryd.func27, Tryd.ntmps27
        try go_wp2_with (first | ((with_reducible refine gate_dst (N := 8) rfl ?_); refine box_event ?hg (N := 8) ?hd (cs := #[.slice none 0 0, .slice none 0 0]) (t := 44) ?hr ?_; (case hd => rfl); (case hg => rfl); (case hr => first | (go_simp; done) | (go_simp; rfl)); intro gb122 hg w19 hbox hb; have n0_ := zS HB hb; have n1_ := Aside0.mk (hbox); have n2_ := Aside0.mk ((by rw [hg]; exact (below_size (zb HB.out)) : w.heap.size ≤ gb122)); have n3_ := Aside0.mk ((by rw [hg]; exact (below_size (zb HB.out)) : w.heap.size ≤ gb122)); clear HB; have HB := n0_; have BK122 := n1_; have GW122 := n2_; have GE122 := n3_; clear n0_ n1_ n2_ n3_; clear hb hbox hg) | ((with_reducible refine gate_callee (f := 46) rfl ?_); refine goesL_ (some 28) rfl rfl Tryd.func46 (by kernel_rfl) rfl #[.slice A0 l0.length c0] rfl zm ?_; (with_reducible refine (tree_Leaves.calls k _ _ l0 t123 _ ?side3 ?side1 ?side2 A5.out).mono ?_); (case side1 => exact zc (Kd.C_below HR0.out HB.out)); (case side2 => exact HC0.out); (case side3 => exact gw_step hG_ (zb1 HB.out GE122.out)); rintro e w20 ⟨v124, rfl, ho0, hb⟩; refine ⟨_, rfl, ?_⟩; have n0_ := zL1 ho0 HB GE122; have n1_ := zK BK122 hb; have n2_ := zS1 HB GE122 hb; clear BK122; clear HB; have HO125 := n0_; have BK122 := n1_; have HB := n2_; clear n0_ n1_ n2_; (try clear hb); (try clear hb2); (try clear hk); (try clear hi); (try clear ho0)) | ((with_reducible refine gate_callee (f := 57) rfl ?_); refine goesL_ (some 31) rfl rfl Tryd.func57 (by kernel_rfl) rfl #[.slice A2 l2.length c2] rfl zm ?_; (with_reducible refine (seal_Leaf.calls k _ _ l2 t126 _ ?side3 ?side1 ?side2 A6.out).mono ?_); (case side1 => exact zc (Kd.C_below HR2.out HB.out)); (case side2 => exact HC2.out); (case side3 => exact gw_step hG_ (zb1 HB.out GE122.out)); rintro e w21 ⟨rfl, hb⟩; refine ⟨_, rfl, ?_⟩; have n0_ := zR HO125 hb; have n1_ := zK BK122 hb; have n2_ := zS1 HB GE122 hb; clear HO125; clear BK122; clear HB; have HO125 := n0_; have BK122 := n1_; have HB := n2_; clear n0_ n1_ n2_; (try clear hb); (try clear hb2); (try clear hk); (try clear hi)) | ((with_reducible refine gate_callee (f := 32) rfl ?_); refine goesL_ (some 36) rfl rfl Tryd.func32 (by kernel_rfl) rfl #[.string t126, .int .i64 a1, .int .i64 (l0.length : Int), .slice A3 l3.length c3] rfl zm ?_; (with_reducible refine (tree_Climb.calls k t126 a1 (l0.length : Int) _ _ l3 t127 t128 _ ?side3 ?side1 ?side2 A7.out).mono ?_); (case side1 => exact zc (Kd.C_below HR3.out HB.out)); (case side2 => exact HC3.out); (case side3 => exact gw_step hG_ (zb1 HB.out GE122.out)); rintro e w22 ⟨rfl, hb⟩; refine ⟨_, rfl, ?_⟩; have n0_ := zR HO125 hb; have n1_ := zK BK122 hb; have n2_ := zS1 HB GE122 hb; clear HO125; clear BK122; clear HB; have HO125 := n0_; have BK122 := n1_; have HB := n2_; clear n0_ n1_ n2_; (try clear hb); (try clear hb2); (try clear hk); (try clear hi)) | ((with_reducible refine gate_dst (N := 45) rfl ?_); refine Kd.N_make k77 _ 77 rfl (N' := 45) rfl 74 _ _ rfl ji9 rfl rfl Tryd.underlying74 (.agg #[(.slice none 0 0), (.slice none 0 0)]) 48 info77 rfl (by decide) (by omega) z77 (ok := fun k_ => w22.heap.size ≤ k_) (okp := fun _ => False) (k77_mkF _ _ z77 (Nat.le_refl _) (Kd.F_nil _ _ _) (Nat.le_refl _) (Kd.F_nil _ _ _)) (fun _ hk => hk.elim) (Nat.le_refl _) (of_decide_eq_true (by first | (with_reducible assumption) | assumption)) (Nat.le_trans (Nat.mul_le_mul_right _ (of_decide_eq_true (by first | (with_reducible assumption) | assumption) : ji9.toNat ≤ 5864062014805)) (by omega)) (Below.refl _ _) (Nat.le_refl _) ?_; intro v130 w23 ho24 hb hg_ hnew_; clear hg_ hnew_; (first | rw [← Ny129.out] at ho24 | (simp only [Int.reduceToNat] at ho24; rw [← Ny129.out] at ho24)); have n0_ := zR HO125 hb; have n1_ := Aside0.mk (Kd.N_lower (Kd.N_mono (ok' := fun k_ => some k_ ≠ (v124 : Value).ownBlock ∧ k_ ≠ gb122) ho24 (fun k_ hk_ => ⟨(Kd.fresh' (Kd.R_lt (zr HO125.out)) k_ hk_), (Kd.freshB (g := gb122) (o := .cells #[.slice none 0 0, .slice none 0 0] 44 (0, 0)) (zk BK122.out) k_ hk_)⟩)) (below_size (zb1 HB.out GE122.out))); have n2_ := zK BK122 hb; have n3_ := zS1 HB GE122 hb; clear HO125; clear BK122; clear HB; have HO125 := n0_; have HO131 := n1_; have BK122 := n2_; have HB := n3_; clear n0_ n1_ n2_ n3_; clear hb ho24))
        have n0_ := Aside0.mk (Kd.R_drew HO125.out)
        have n1_ := Aside0.mk (Kd.N_drew HO131.out)
        have n2_ := Aside0.mk (blk_drew BK122.out)
        have n3_ := Aside0.mk (below_drew1 HB.out)
        clear HO125
        clear HO131
        clear BK122
        clear HB
        have HO125 := n0_
        have HO131 := n1_
        have BK122 := n2_
        have HB := n3_
        clear n0_ n1_ n2_ n3_
        have p135 : 0 ≤ (a1 : Int) := of_decide_eq_true (by first | (with_reducible assumption) | assumption)
        have q135 : a1 < (l0.length : Int) := of_decide_eq_true (by first | (with_reducible assumption) | assumption)
        obtain ⟨ad135, A135_0, c135_0, e135, hx135_0, hl135_0, hi135_0⟩ := at_L2 HR0.out a1 p135 q135
        have hw135_0 := hx135_0
        cases e135
        replace hx135_0 := (HB.out.cell (World.block_lt_of_cell? w _ hx135_0)).trans hx135_0
        have HR135_0 := Aside0.mk hi135_0
        have HC135_0 := Aside0.mk hl135_0
        clear hi135_0 hl135_0
        replace p135 := eq_true p135
        replace q135 := eq_true q135
        refine start_ (n := 13) (S := fun w' => w'.cell? (ad135.add (a1).toNat) = some (.slice A135_0 (rd_L2 l0 a1).length c135_0)) (ds := [12]) #[false, false, false, false, false, false, false, false, false, false, false, false, false] (by kernel_rfl) rfl rfl (((HB.out.cell (World.block_lt_of_cell? w _ hw135_0)).trans hw135_0)) (fun hHeld => ?_); refine with_tabW clash_Leaf.tab6 clash_Leaf.bits6 (fun HT_ HW_ => ?_)
        generalize w23.drew = w25 at HO125 HO131 BK122 HB HR135_0 hx135_0 hHeld ⊢
        refine HBulk.bulkT (fuel := 5) HT_.out HW_.out [(0, some 46, false), (1, some 47, false), (2, some 48, false), (3, some 49, false), (5, some 51, false), (6, some 52, false), (7, some 53, false), (8, some 54, true)] #[true, true, true, true, false, true, true, true, true, false, false, false, false] (a' := ?_) (by kernel_rfl) rfl hHeld ?_ ?_
        rotate_left
        ·repeat
          refine HBulk.RunsM.cons (v := ?_) (a1 := ?_) rfl rfl (fun _ _ _ h => h) (by rfl) ?_ ?_ ?_
          rotate_left
          ·intro w' hS_; (try (have s0 := hS_ rfl))
           go_simp
           with_reducible rfl
          rotate_left
          ·simp only [Act.put, List.setIfInBounds_toArray, List.set_cons_zero, List.set_cons_succ, i64_w, i32_w]
           rfl
         exact HBulk.RunsM.nil
        refine one_ (i := 4) (N := some 50) #[true, true, true, true, true, true, true, true, true, false, false, false, false] rfl rfl (one_of HT_.out (by kernel_rfl)) (by decide) (fun K hK => ?_)
        refine goes_ Tryd.func58 (by kernel_rfl) rfl #[.slice A2 l2.length c2] (by rfl) rfl rfl zm ?_
        with_reducible refine (seal_LeafBytes.calls k _ _ l2 t132 _ ?side1 ?side2 A12.out).mono ?_
        (case side1 => exact zc (Kd.C_below HR2.out HB.out))
        (case side2 => exact HC2.out)
        rintro e w26 ⟨v133, rfl, ho0, hb⟩
        refine ⟨_, rfl, ?_⟩
        have n0_ := zR HO125 hb
        have n1_ := Aside0.mk (Kd.N_elder' (by (with_reducible repeat (first | apply Kd.N_alloc | apply Kd.N_drewN | apply Kd.N_drew)); exact HO131.out) (Kd.R_base ho0) hb)
        have n2_ := zL1 ho0 HB GE122
        have n3_ := zK BK122 hb
        have n4_ := zS1 HB GE122 hb
        clear HO125
        clear HO131
        clear BK122
        clear HB
        have HO125 := n0_
        have HO131 := n1_
        have HO134 := n2_
        have BK122 := n3_
        have HB := n4_
        clear n0_ n1_ n2_ n3_ n4_
        (try clear hb)
        (try clear hb2)
        (try clear hk)
        (try clear hi)
        (try clear ho0)
        refine hK.out _ _ (((HB.out.cell (World.block_lt_of_cell? w _ hw135_0)).trans hw135_0)) (fun hHeld => ?_)
        clear hK K
        refine norm_ (a' := ?_) ?_ ?_
        rotate_left
        ·show Act.put _ (some 50) _ = _
         simp only [Act.put, List.setIfInBounds_toArray, List.set_cons_zero, List.set_cons_succ, i64_w, i32_w]
         rfl
        refine one_ (i := 9) (N := some 55) #[true, true, true, true, true, true, true, true, true, true, false, false, false] rfl rfl (one_of HT_.out (by kernel_rfl)) (by decide) (fun K hK => ?_)
        refine goes_ Tryd.func58 (by kernel_rfl) rfl #[.slice A135_0 (rd_L2 l0 a1).length c135_0] (by rfl) rfl rfl zm ?_
        with_reducible refine (seal_LeafBytes.calls k _ _ (rd_L2 l0 a1) t136 _ ?side1 ?side2 A15.out).mono ?_
        (case side1 => exact zc (Kd.C_below HR135_0.out HB.out))
        (case side2 => exact HC135_0.out)
        rintro e w27 ⟨v137, rfl, ho0, hb⟩
        refine ⟨_, rfl, ?_⟩
        have n0_ := zR HO125 hb
        have n1_ := Aside0.mk (Kd.N_elder' (by (with_reducible repeat (first | apply Kd.N_alloc | apply Kd.N_drewN | apply Kd.N_drew)); exact HO131.out) (Kd.R_base ho0) hb)
        have n2_ := Aside0.mk (Kd.R_elder' (zr HO134.out) (Kd.R_base ho0) hb)
        have n3_ := Aside0.mk (Kd.R_lower (Kd.R_new' ho0 (Kd.R_lt (zr HO134.out))) (below_size (zb1 HB.out GE122.out)))
        have n4_ := zK BK122 hb
        have n5_ := zS1 HB GE122 hb
        clear HO125
        clear HO131
        clear HO134
        clear BK122
        clear HB
        have HO125 := n0_
        have HO131 := n1_
        have HO134 := n2_
        have HO138 := n3_
        have BK122 := n4_
        have HB := n5_
        clear n0_ n1_ n2_ n3_ n4_ n5_
        (try clear hb)
        (try clear hb2)
        (try clear hk)
        (try clear hi)
        (try clear ho0)
        obtain ⟨Ao28, co28, eo28⟩ := Kd.R_slice HO138.out
        (first | subst eo28 | (injection eo28 with f1_ f2_ f3_; have f4_ := f1_.symm; have f5_ := f3_.symm; clear f1_ f2_ f3_; subst f4_; subst f5_))
        obtain ⟨Ao29, co29, eo29⟩ := Kd.R_slice HO134.out
        (first | subst eo29 | (injection eo29 with f1_ f2_ f3_; have f4_ := f1_.symm; have f5_ := f3_.symm; clear f1_ f2_ f3_; subst f4_; subst f5_))
        have p18 : 0 ≤ ((l3.length : Int) : Int) := of_decide_eq_true (by first | (with_reducible assumption) | assumption)
        have q18 : ((l3.length : Int) : Int) < ((y129.length : Int) : Int) := of_decide_eq_true (by first | (with_reducible assumption) | assumption)
        obtain ⟨go18, co18, eo18, gb18, gl18, cl18, HG18⟩ := Kd.N_form HO131.out (by omega)
        (first | cases eo18 | (injection eo18 with ea_ en_ ec_; (first | subst ea_ | (injection ea_ with ea_; subst ea_)); subst ec_; clear en_))
        have GB18 := Aside0.mk gb18
        have GG18 := Aside0.mk HG18
        clear gb18 gl18 HG18
        obtain ⟨ce18, hcl18, hM18, hcc18, hfr18⟩ := Kd.N_elem HO131.out z77 ((l3.length : Int) : Int) p18 q18
        obtain ⟨ua18_0, uc18_0, ua18_1, uc18_1, rfl, ul18_0, ge18_0, ul18_1, ge18_1⟩ := k77_openF hM18
        have hx18_0 : World.cell? _ ⟨go18, l3.length * 2, none⟩ = some (.slice ua18_0 ((rd_T77 y129 (l3.length : Int)).f0).length uc18_0) := hcc18 0 _ rfl
        have hx18_1 : World.cell? _ ⟨go18, l3.length * 2 + 1, none⟩ = some (.slice ua18_1 ((rd_T77 y129 (l3.length : Int)).f1).length uc18_1) := hcc18 1 _ rfl
        have hf18_0 : World.frozen? _ ⟨go18, l3.length * 2, none⟩ = false := hfr18 0
        have hf18_1 : World.frozen? _ ⟨go18, l3.length * 2 + 1, none⟩ = false := hfr18 1
        clear hcl18 hcc18 hfr18 hM18
        replace p18 := eq_true p18
        replace q18 := eq_true q18
        have HX30 := Aside0.mk (show Kd.N k77 77 _ w.heap.size (fun k_ => some k_ ≠ (v124 : Value).ownBlock ∧ some k_ ≠ (.slice Ao29 t132.length co29 : Value).ownBlock ∧ some k_ ≠ (.slice Ao28 t136.length co28 : Value).ownBlock ∧ k_ ≠ gb122) (.slice (some ⟨go18, 0, none⟩) y129.length co18) y129 from (Kd.N_mono (HO131.out) (fun k_ hk => ⟨hk.1.1.1, ⟨hk.1.2, ⟨hk.2, hk.1.1.2⟩⟩⟩)))
        replace HX30 := Aside0.mk (show Kd.N k77 77 _ w.heap.size (fun k_ => some k_ ≠ (v124 : Value).ownBlock ∧ k_ ≠ gb122) (.slice (some ⟨go18, 0, none⟩) y129.length co18) y129 from Kd.N_mono HX30.out (fun k_ hk => ⟨hk.1, hk.2.2.2⟩))
        obtain ⟨ce30, hcl30, hM30, hcc30, hfr30⟩ := Kd.N_elem HX30.out z77 ((l3.length : Int) : Int) (of_decide_eq_true (by first | (with_reducible assumption) | assumption)) (by have h_ : ((l3.length : Int) : Int) < ((y129.length : Int) : Int) := of_decide_eq_true (by first | (with_reducible assumption) | assumption); first | exact h_ | (have e_ := (Kd.N_reads' HO131.out).1; omega) | simpa using h_)
        obtain ⟨ua30_0, uc30_0, ua30_1, uc30_1, rfl, ul30_0, ge30_0, ul30_1, ge30_1⟩ := k77_openF hM30
        have HP30 := (Kd.N_seg HX30.out ((l3.length : Int) : Int) (of_decide_eq_true (by first | (with_reducible assumption) | assumption)) (by have h_ : ((l3.length : Int) : Int) < ((y129.length : Int) : Int) := of_decide_eq_true (by first | (with_reducible assumption) | assumption); first | exact h_ | (have e_ := (Kd.N_reads' HO131.out).1; omega) | simpa using h_) (seg := [.slice Ao29 t132.length co29, .slice Ao28 t136.length co28]) (j := 0) hcl30 hcc30 (show 2 ≤ 2 from by decide) (x' := (⟨t132, t136⟩ : S77)) (k77_mkF _ _ (⟨t132, t136⟩ : S77) (Kd.R_reads' (Kd.R_mono (ok' := (fun k_ => ((fun k_ => some k_ ≠ (v124 : Value).ownBlock ∧ k_ ≠ gb122)) k_ ∧ k_ ≠ go18)) (Kd.R_types (Kd.R_apart' (Kd.R_apart' (HO134.out) (Kd.R_typed HO125.out) (by decide)) (Kd.N_typed HO131.out) (by decide)) BK122.out (by decide)) (fun k_ hk => ⟨⟨hk.1.1.2, hk.2⟩, fun e_ => (hk.1.2) (by rw [e_]; rfl)⟩))).2.1 (Kd.R_F (Kd.R_mono (ok' := (fun k_ => ((fun k_ => some k_ ≠ (v124 : Value).ownBlock ∧ k_ ≠ gb122)) k_ ∧ k_ ≠ go18)) (Kd.R_types (Kd.R_apart' (Kd.R_apart' (HO134.out) (Kd.R_typed HO125.out) (by decide)) (Kd.N_typed HO131.out) (by decide)) BK122.out (by decide)) (fun k_ hk => ⟨⟨hk.1.1.2, hk.2⟩, fun e_ => (hk.1.2) (by rw [e_]; rfl)⟩))) (Kd.R_reads' (Kd.R_mono (ok' := (fun k_ => ((fun k_ => some k_ ≠ (v124 : Value).ownBlock ∧ k_ ≠ gb122)) k_ ∧ k_ ≠ go18)) (Kd.R_types (Kd.R_apart' (Kd.R_apart' (HO138.out) (Kd.R_typed HO125.out) (by decide)) (Kd.N_typed HO131.out) (by decide)) BK122.out (by decide)) (fun k_ hk => ⟨⟨hk.1.1.2, hk.2⟩, fun e_ => (hk.1.2) (by rw [e_]; rfl)⟩))).2.1 (Kd.R_F (Kd.R_mono (ok' := (fun k_ => ((fun k_ => some k_ ≠ (v124 : Value).ownBlock ∧ k_ ≠ gb122)) k_ ∧ k_ ≠ go18)) (Kd.R_types (Kd.R_apart' (Kd.R_apart' (HO138.out) (Kd.R_typed HO125.out) (by decide)) (Kd.N_typed HO131.out) (by decide)) BK122.out (by decide)) (fun k_ hk => ⟨⟨hk.1.1.2, hk.2⟩, fun e_ => (hk.1.2) (by rw [e_]; rfl)⟩)))) (fun _ hk => hk)).1
        rw [← Ny139.out] at HP30
        have HQ30 := Aside0.mk HP30
        clear hcl30 hcc30 hfr30 hM30 HP30
        refine hK.out _ _ (((HB.out.cell (World.block_lt_of_cell? w _ hw135_0)).trans hw135_0)) (fun hHeld => ?_)
        clear hK K
        refine norm_ (a' := ?_) ?_ ?_
        rotate_left
        ·show Act.put _ (some 55) _ = _
         simp only [Act.put, List.setIfInBounds_toArray, List.set_cons_zero, List.set_cons_succ, i64_w, i32_w]
         rfl
        refine HBulk.bulkT (fuel := 1) HT_.out HW_.out [(10, some 56, false), (11, some 57, false)] #[true, true, true, true, true, true, true, true, true, true, true, true, false] (a' := ?_) (by kernel_rfl) rfl hHeld ?_ ?_
        rotate_left
        ·repeat
          refine HBulk.RunsM.cons (v := ?_) (a1 := ?_) rfl rfl (fun _ _ _ h => h) (by rfl) ?_ ?_ ?_
          rotate_left
          ·intro w' hS_
           go_simp
           with_reducible rfl
          rotate_left
          ·simp only [Act.put, List.setIfInBounds_toArray, List.set_cons_zero, List.set_cons_succ, i64_w, i32_w]
           rfl
         exact HBulk.RunsM.nil
        refine last_ (i := 12) (N := none) #[true, true, true, true, true, true, true, true, true, true, true, true, true] rfl rfl (one_of HT_.out (by kernel_rfl)) (by decide) (fun K hK => ?_)
        refine skip_ (w1 := ?_) (by rfl) rfl ?_ ?_
        rotate_left
        ·go_simp
         rfl
        refine hK.out _ _ ?_
        clear hK K
        refine done_ (done_of HT_.out (by kernel_rfl)) ?_
        try go_wp2
        go_loopg [15, 16, 63] k (fun kq v15 v16 v63 w' => ∃ (x13_1 : List (S77)) (x15_1 : Int) (x16_1 : Int) (x63_1 : Int), v15 = .int .i64 x15_1 ∧ v16 = .int .i64 x16_1 ∧ v63 = .int .i64 x63_1 ∧ Aside0 (clash_Leaf.l0 kq l2 l3 t123 x13_1 a1 x15_1 x16_1 (l3.length : Int) x63_1 = some (r1, r2, r3)) ∧ Aside0 (kq ≤ k) ∧ Aside0 (Kd.R Kd.string 9 w' w.heap.size (fun _ => True) v124 t123) ∧ Aside0 (Kd.N k77 77 w' w.heap.size (fun k_ => some k_ ≠ (v124 : Value).ownBlock ∧ k_ ≠ gb122) (.slice (some ⟨go18, 0, none⟩) y129.length co18) x13_1) ∧ Aside0 (w'.heap[gb122]? = some (.cells #[(.slice none 0 0), (.slice none 0 0)] 44 (0, 0))) ∧ Aside0 (Below w.heap.size w w'))
        case atStart => exact ⟨(y139), (0), ((l0.length : Int)), (0), (by first | rfl | (simp; done) | (simp [*]; done)), (by first | rfl | (simp; done) | (simp [*]; done)), (by first | rfl | (simp; done) | (simp [*]; done)), H', ⟨Nat.le_refl _⟩, ⟨by (with_reducible repeat (first | apply Kd.R_alloc | apply Kd.R_drewN | apply Kd.R_drew)); exact Kd.R_mono (Kd.R_far (p := ⟨go18, ((l3.length : Int) : Int).toNat * 2 + 1, none⟩) (Kd.R_far (p := ⟨go18, ((l3.length : Int) : Int).toNat * 2, none⟩) (Kd.R_types HO125.out GG18.out (by decide)) (fun _ hk => hk.2) (.slice Ao29 t132.length co29)) (fun _ hk => hk.2) (.slice Ao28 t136.length co28)) (fun _ hk => trivial)⟩, ⟨by (with_reducible repeat (first | apply Kd.N_alloc | apply Kd.N_drewN | apply Kd.N_drew)); exact HQ30.out⟩, ⟨by (with_reducible repeat (first | refine blk_drewN ?_ _ | refine blk_drew ?_ | refine blk_alloc ?_ _)); refine blk_far ?_ (by have h_ := Kd.N_away HO131.out (fun _ hk => by first | exact hk.2 | exact hk.1.2 | exact hk.1.1.2 | exact hk.1.1.1.2); intro e_; exact h_ (by rw [e_]; rfl)) _; (with_reducible repeat (first | refine blk_drewN ?_ _ | refine blk_drew ?_ | refine blk_alloc ?_ _)); refine blk_far ?_ (by have h_ := Kd.N_away HO131.out (fun _ hk => by first | exact hk.2 | exact hk.1.2 | exact hk.1.1.2 | exact hk.1.1.1.2); intro e_; exact h_ (by rw [e_]; rfl)) _; (with_reducible repeat (first | refine blk_drewN ?_ _ | refine blk_drew ?_ | refine blk_alloc ?_ _)); exact BK122.out⟩, ⟨by repeat (first | (with_reducible first | exact HB.out | apply below_alloc | apply pw_below_drewN | apply below_drew1 | refine below_set ?_ GB18.out | refine below_set ?_ GB18.out | refine below_set ?_ GE122.out) | exact HB.out)⟩⟩
        case round =>
         clear H'
         try clear c1
         try clear p1
         try clear q1
         try clear hx1
         try clear c2
         try clear p2
         try clear c3
         try clear c4
         try clear c5
         try clear p6
         try clear c8
         try clear c8b0
         try clear c8b1
         try clear c10
         try clear c10b0
         try clear c10b1
         try clear c11
         try clear c11b0
         try clear c11b1
         try clear c13
         try clear c13b0
         try clear p13
         try clear q13
         try clear hx13
         try clear c14
         try clear c14b0
         try clear c16
         try clear c16b0
         try clear c16b1
         try clear c17
         try clear c17b0
         try clear c17b1
         try clear c18
         try clear p18
         try clear q18
         try clear hx18
         try clear hf18
         try clear c27
         try clear c30
         try clear hx135_0
         try clear hx18_0
         try clear hx18_1
         try clear p135
         try clear p18
         try clear q135
         try clear q18
         obtain ⟨x13_1, x15_1, x16_1, x63_1, rfl, rfl, rfl, HA, HK1, HO_10, HO_13, BK122, HB⟩ := hrel
         have hl13_1 := (Kd.N_reads' HO_13.out).1
         rw [hl13_1] at HO_13
         (try simp only [hl13_1])
         (try simp only [hl13_1] at BK122)
         (try simp only [hl13_1] at HO_10)
         cases gk with
         | zero => exact absurd HA.out (by simp [clash_Leaf.l0])
         | succ k1 =>
          have H := HA.out
          clear HA
          simp only [clash_Leaf.l0] at H
          by_cases c31 : x63_1 < (l3.length : Int)
          ·rw [if_pos c31] at H
           have c31b0 : decide (x63_1 < (l3.length : Int)) = true := decide_eq_true c31
           clear c31
           replace H := Option.bind_eq_some_iff.mp H
           obtain ⟨t147, A320, H⟩ := H
           replace H : (if 0 ≤ x15_1 then (if x15_1 ≤ x16_1 then (if x16_1 ≤ (t123.length : Int) then ((some ((t123.take (x16_1 : Int).toNat).drop (x15_1 : Int).toNat : List ByteArray)).bind fun y148 => (if ((wrap64 (a1 - x15_1)) < t147) then (clash_Leaf.j1 k1 l2 l3 t123 x13_1 a1 x15_1 x16_1 x63_1 (wrap64 ((wrap64 ((l3.length : Int) - 1)) - x63_1)) t147 y148 (decide ((wrap64 (a1 - x15_1)) < t147)) (wrap64 (a1 - x15_1)) t147 (l3.length : Int) x63_1) else (clash_Leaf.j1 k1 l2 l3 t123 x13_1 a1 x15_1 x16_1 x63_1 (wrap64 ((wrap64 ((l3.length : Int) - 1)) - x63_1)) t147 y148 (decide ((wrap64 (a1 - x15_1)) < t147)) (wrap64 ((wrap64 (a1 - x15_1)) - t147)) (wrap64 ((wrap64 (x16_1 - x15_1)) - t147)) (l3.length : Int) x63_1))) else (none)) else (none)) else (none)) = some (r1, r2, r3) := H
           have A32 := Aside0.mk A320
           clear A320
           by_cases c33 : 0 ≤ x15_1
           ·rw [if_pos c33] at H
            have c33b0 := eq_true c33
            have c33b1 : decide (0 ≤ x15_1) = true := decide_eq_true c33
            clear c33
            by_cases c34 : x15_1 ≤ x16_1
            ·rw [if_pos c34] at H
             have c34b0 := eq_true c34
             have c34b1 : decide (x15_1 ≤ x16_1) = true := decide_eq_true c34
             clear c34
             by_cases c35 : x16_1 ≤ (t123.length : Int)
             ·rw [if_pos c35] at H
              have c35b0 := eq_true c35
              have c35b1 : decide (x16_1 ≤ (t123.length : Int)) = true := decide_eq_true c35
              clear c35
              obtain ⟨y148, hy148⟩ : ∃ y_ : List ByteArray, y_ = ((t123.take (x16_1 : Int).toNat).drop (x15_1 : Int).toNat) := ⟨_, rfl⟩
              replace H : (if ((wrap64 (a1 - x15_1)) < t147) then (clash_Leaf.j1 k1 l2 l3 t123 x13_1 a1 x15_1 x16_1 x63_1 (wrap64 ((wrap64 ((l3.length : Int) - 1)) - x63_1)) t147 y148 (decide ((wrap64 (a1 - x15_1)) < t147)) (wrap64 (a1 - x15_1)) t147 (l3.length : Int) x63_1) else (clash_Leaf.j1 k1 l2 l3 t123 x13_1 a1 x15_1 x16_1 x63_1 (wrap64 ((wrap64 ((l3.length : Int) - 1)) - x63_1)) t147 y148 (decide ((wrap64 (a1 - x15_1)) < t147)) (wrap64 ((wrap64 (a1 - x15_1)) - t147)) (wrap64 ((wrap64 (x16_1 - x15_1)) - t147)) (l3.length : Int) x63_1)) = some (r1, r2, r3) := by first | (rw [hy148]; with_reducible exact H) | (have H2_ := (Option.bind_some _ _).symm.trans H; rw [hy148]; with_reducible exact H2_) | (have H2_ := (Option.bind_some _ _).symm.trans H; with_reducible exact H2_) | with_reducible exact H | (rw [hy148]; exact H) | exact H
              have Ny148 := Aside0.mk hy148
              clear hy148
              have HC36 := Aside0.mk H
              clear H
              go_upto_if 89 with (first | ((with_reducible refine gate_callee (f := 49) rfl ?_); refine goesL_ (some 74) rfl rfl Tryd.func49 (by kernel_rfl) rfl #[.int .i64 (wrap64 (x16_1 - x15_1))] rfl zm ?_; (with_reducible refine (tree_Split.calls k1 (wrap64 (x16_1 - x15_1)) t147 _ A32.out).mono ?_); rintro e w' ⟨rfl, ⟨nd, rfl⟩⟩; refine ⟨_, rfl, ?_⟩; obtain ⟨Ao38, co38, eo38⟩ := Kd.R_slice HO_10.out; subst eo38; have q37 : (x16_1 : Int) ≤ ((t123.length : Int) : Int) := of_decide_eq_true (by first | (with_reducible assumption) | assumption); obtain ⟨i037, hi037, _, hsz37, _⟩ := info_parts info9; have hroom37 : t123.length ≤ co38 := (Kd.R_reads' HO_10.out).2.1; have hC37 : Kd.F Kd.string _ _ Ao38 t123.length t123 := (Kd.V_at (base := w.heap.size) (Kd.R_V (Kd.R_types (Kd.R_apart' (HO_10.out) (Kd.N_typed HO_13.out) (by decide)) BK122.out (by decide)))).2.2; have ql37 : (x15_1 : Int) ≤ (x16_1 : Int) := of_decide_eq_true (by first | (with_reducible assumption) | assumption); have q037 : (0 : Int) ≤ (x15_1 : Int) := of_decide_eq_true (by first | (with_reducible assumption) | assumption); have hcut37 := cut_mid (P := Tryd.prog) 22 9 .i64 .i64 Tryd.underlying22 hi037 1 hsz37 Ao38 t123.length co38 x15_1 x16_1 q037 ql37 q37 hroom37; have hr37 := Kd.F_mid (lo := (x15_1 : Int).toNat) (hi := (x16_1 : Int).toNat) (c := co38) hC37 (by omega) (by omega) hroom37; obtain ⟨A37, hA37⟩ : ∃ A_, A_ = (if co38 = (x15_1 : Int).toNat then Ao38 else (Ao38 : Option Addr).map (·.add ((x15_1 : Int).toNat * 1))) := ⟨_, rfl⟩; obtain ⟨c37, hc37⟩ : ∃ c_, c_ = co38 - (x15_1 : Int).toNat := ⟨_, rfl⟩; have hy37 : y148.length = (x16_1 : Int).toNat - (x15_1 : Int).toNat := (by rw [Ny148.out, List.length_drop, List.length_take] <;> omega); rw [show ((t123).take (x16_1 : Int).toNat).drop (x15_1 : Int).toNat = y148 from Ny148.out.symm] at hr37; replace hr37 : Kd.F Kd.string _ _ A37 y148.length y148 := (by rw [hA37]; exact hr37); rw [← hy37, ← hA37, ← hc37] at hcut37; have HO152 := Aside0.mk (show Kd.V Kd.string 9 _ w.heap.size _ (.slice A37 y148.length c37) y148 from Kd.V_mk (by rw [hy37, hc37]; exact Nat.sub_le_sub_right (Nat.le_trans (by omega) hroom37) _) hr37); have HC152 := Aside0.mk (show y148.length ≤ c37 from by rw [hy37, hc37]; exact Nat.sub_le_sub_right (Nat.le_trans (by omega) hroom37) _); clear hr37 hC37 hroom37 hi037 hsz37 hc37; have KY37 := Aside0.mk hy37; have KA37 := Aside0.mk hA37; clear hy37 hA37; replace q37 := eq_true q37))
              (try simp only [Act.put, List.setIfInBounds_toArray, List.set_cons_zero, List.set_cons_succ])
              go_cut [22, 23] (fun v22 v23 wc => ∃ (kq : Nat) (x22_35 : Int) (x23_35 : Int), v22 = .int .i64 x22_35 ∧ v23 = .int .i64 x23_35 ∧ Aside0 (clash_Leaf.j1 kq l2 l3 t123 x13_1 a1 x15_1 x16_1 x63_1 (wrap64 ((wrap64 ((l3.length : Int) - 1)) - x63_1)) t147 y148 (decide ((wrap64 (a1 - x15_1)) < t147)) x22_35 x23_35 (l3.length : Int) x63_1 = some (r1, r2, r3)) ∧ Aside0 (kq ≤ k1) ∧ Aside0 (Kd.R Kd.string 9 wc w.heap.size (fun _ => True) (.slice Ao38 t123.length co38) t123) ∧ Aside0 (Kd.N k77 77 wc w.heap.size (fun k_ => some k_ ≠ ((.slice Ao38 t123.length co38) : Value).ownBlock ∧ k_ ≠ gb122) (.slice (some ⟨go18, 0, none⟩) x13_1.length co18) x13_1) ∧ Aside0 (Kd.V Kd.string 9 wc w.heap.size (fun k_ => some k_ ≠ ((.slice (some ⟨go18, 0, none⟩) x13_1.length co18) : Value).ownBlock ∧ k_ ≠ gb122) (.slice A37 y148.length c37) y148) ∧ Aside0 (wc.heap[gb122]? = some (.cells #[(.slice none 0 0), (.slice none 0 0)] 44 (0, 0))) ∧ Aside0 (Below w.heap.size w wc))
              case first =>
               have H := HC36.out
               clear HC36
               by_cases c39 : ((wrap64 (a1 - x15_1)) < t147)
               ·rw [if_pos c39] at H
                have c39b0 : decide ((wrap64 (a1 - x15_1)) < t147) = true := decide_eq_true c39
                clear c39
                (first | rw (occs := .neg [1]) [c39b0] | rw [c39b0] | skip)
                have H' := Aside0.mk H
                clear H
                go_wp2
                go_meet
                case rel => exact ⟨_, (wrap64 (a1 - x15_1)), (t147), (by first | rfl | (simp; done) | (simp [*]; done)), (by first | rfl | (simp; done) | (simp [*]; done)), H', ⟨by have := HK1.out; first | omega | exact Nat.le_refl _⟩, ⟨by (try simp only [hl13_1]); (with_reducible repeat (first | apply Kd.R_alloc | apply Kd.R_drewN | apply Kd.R_drew)); exact HO_10.out⟩, ⟨by (try simp only [hl13_1]); (with_reducible repeat (first | apply Kd.N_alloc | apply Kd.N_drewN | apply Kd.N_drew)); exact HO_13.out⟩, ⟨by (try simp only [hl13_1]); (with_reducible repeat (first | apply Kd.V_alloc | apply Kd.V_drewN | apply Kd.V_drew)); exact Kd.V_mono HO152.out (fun _ hk => ⟨hk.1.2, hk.2⟩)⟩, ⟨by (try simp only [hl13_1]); (with_reducible repeat (first | refine blk_drewN ?_ _ | refine blk_drew ?_ | refine blk_alloc ?_ _)); exact BK122.out⟩, ⟨by repeat (first | (with_reducible first | exact HB.out | apply below_alloc | apply pw_below_drewN | apply below_drew1 | refine below_set ?_ GE122.out) | exact HB.out)⟩⟩
               ·rw [if_neg c39] at H
                have c39b0 : decide ((wrap64 (a1 - x15_1)) < t147) = false := decide_eq_false c39
                clear c39
                (first | rw (occs := .neg [1]) [c39b0] | rw [c39b0] | skip)
                have H' := Aside0.mk H
                clear H
                go_wp2
                go_meet
                case rel => exact ⟨_, (wrap64 ((wrap64 (a1 - x15_1)) - t147)), (wrap64 ((wrap64 (x16_1 - x15_1)) - t147)), (by first | rfl | (simp; done) | (simp [*]; done)), (by first | rfl | (simp; done) | (simp [*]; done)), H', ⟨by have := HK1.out; first | omega | exact Nat.le_refl _⟩, ⟨by (try simp only [hl13_1]); (with_reducible repeat (first | apply Kd.R_alloc | apply Kd.R_drewN | apply Kd.R_drew)); exact HO_10.out⟩, ⟨by (try simp only [hl13_1]); (with_reducible repeat (first | apply Kd.N_alloc | apply Kd.N_drewN | apply Kd.N_drew)); exact HO_13.out⟩, ⟨by (try simp only [hl13_1]); (with_reducible repeat (first | apply Kd.V_alloc | apply Kd.V_drewN | apply Kd.V_drew)); exact Kd.V_mono HO152.out (fun _ hk => ⟨hk.1.2, hk.2⟩)⟩, ⟨by (try simp only [hl13_1]); (with_reducible repeat (first | refine blk_drewN ?_ _ | refine blk_drew ?_ | refine blk_alloc ?_ _)); exact BK122.out⟩, ⟨by repeat (first | (with_reducible first | exact HB.out | apply below_alloc | apply pw_below_drewN | apply below_drew1 | refine below_set ?_ GE122.out) | exact HB.out)⟩⟩
              case rest =>
               clear HC36
               try clear c1
               try clear p1
               try clear q1
               try clear hx1
               try clear c2
               try clear p2
               try clear c3
               try clear q3
               try clear c4
               try clear c5
               try clear p6
               try clear c8
               try clear c8b0
               try clear c8b1
               try clear c10
               try clear c10b0
               try clear c10b1
               try clear c11
               try clear c11b0
               try clear c11b1
               try clear c13
               try clear c13b0
               try clear p13
               try clear q13
               try clear hx13
               try clear c14
               try clear c14b0
               try clear c16
               try clear c16b0
               try clear c16b1
               try clear c17
               try clear c17b0
               try clear c17b1
               try clear c18
               try clear p18
               try clear q18
               try clear hx18
               try clear hf18
               try clear c27
               try clear c30
               try clear c31
               try clear c31b0
               try clear c32
               try clear c33
               try clear c33b0
               try clear c33b1
               try clear c34
               try clear c34b0
               try clear c34b1
               try clear c35
               try clear c35b0
               try clear c35b1
               try clear c37
               try clear q37
               try clear c39
               try clear c39b0
               try clear hx135_0
               try clear hx18_0
               try clear hx18_1
               try clear p1
               try clear p13
               try clear p135
               try clear p18
               try clear p2
               try clear p6
               try clear q037
               try clear q1
               try clear q13
               try clear q135
               try clear q18
               try clear q37
               obtain ⟨kq, x22_35, x23_35, rfl, rfl, HA, HJ35, HO_10, HO_13, HO_20, BK122, HB⟩ := hcut
               cases kq with
               | zero => exact absurd HA.out (by simp [clash_Leaf.j1])
               | succ kj35 =>
                have H := HA.out
                clear HA
                simp only [clash_Leaf.j1] at H
                replace H := Option.bind_eq_some_iff.mp H
                obtain ⟨t153, A400, H⟩ := H
                replace H : (if 0 ≤ (wrap64 ((wrap64 ((l3.length : Int) - 1)) - x63_1)) then (if (wrap64 ((wrap64 ((l3.length : Int) - 1)) - x63_1)) ≤ (l3.length : Int) then ((tree_Climb.f kj35 t153 x22_35 x23_35 (l3.take ((wrap64 ((wrap64 ((l3.length : Int) - 1)) - x63_1)) : Int).toNat)).bind fun bt155 => (if (wrap64 ((wrap64 ((l3.length : Int) - 1)) - x63_1)) < (l3.length : Int) then ((seal_NodeBytes.f kj35 bt155.1 (rdOf ByteArray.empty l3 (wrap64 ((wrap64 ((l3.length : Int) - 1)) - x63_1)))).bind fun t158 => (if (decide ((wrap64 (a1 - x15_1)) < t147)) = true then ((clash_halves.f kj35 y148).bind fun t161 => (if 0 ≤ x63_1 then (if x63_1 < (x13_1.length : Int) then (clash_Leaf.l0 kj35 l2 l3 t123 (x13_1.set (x63_1 : Int).toNat (⟨t158, t161⟩ : S77)) a1 x15_1 (wrap64 (x15_1 + t147)) (l3.length : Int) (wrap64 (x63_1 + 1))) else (none)) else (none))) else ((seal_NodeBytes.f kj35 (rdOf ByteArray.empty l3 (wrap64 ((wrap64 ((l3.length : Int) - 1)) - x63_1))) bt155.1).bind fun t166 => ((clash_halves.f kj35 y148).bind fun t169 => (if 0 ≤ x63_1 then (if x63_1 < (x13_1.length : Int) then (clash_Leaf.l0 kj35 l2 l3 t123 (x13_1.set (x63_1 : Int).toNat (⟨t166, t169⟩ : S77)) a1 (wrap64 (x15_1 + t147)) x16_1 (l3.length : Int) (wrap64 (x63_1 + 1))) else (none)) else (none)))))) else (none))) else (none)) else (none)) = some (r1, r2, r3) := H
                have A40 := Aside0.mk A400
                clear A400
                obtain ⟨ji41, hji41⟩ : ∃ j_ : Int, (wrap64 ((wrap64 ((l3.length : Int) - 1)) - x63_1)) = j_ := ⟨_, rfl⟩
                replace H : (if 0 ≤ (ji41) then (if (ji41) ≤ (l3.length : Int) then ((tree_Climb.f kj35 t153 x22_35 x23_35 (l3.take ((ji41) : Int).toNat)).bind fun bt155 => (if (ji41) < (l3.length : Int) then ((seal_NodeBytes.f kj35 bt155.1 (rdOf ByteArray.empty l3 (ji41))).bind fun t158 => (if (decide ((wrap64 (a1 - x15_1)) < t147)) = true then ((clash_halves.f kj35 y148).bind fun t161 => (if 0 ≤ x63_1 then (if x63_1 < (x13_1.length : Int) then (clash_Leaf.l0 kj35 l2 l3 t123 (x13_1.set (x63_1 : Int).toNat (⟨t158, t161⟩ : S77)) a1 x15_1 (wrap64 (x15_1 + t147)) (l3.length : Int) (wrap64 (x63_1 + 1))) else (none)) else (none))) else ((seal_NodeBytes.f kj35 (rdOf ByteArray.empty l3 (ji41)) bt155.1).bind fun t166 => ((clash_halves.f kj35 y148).bind fun t169 => (if 0 ≤ x63_1 then (if x63_1 < (x13_1.length : Int) then (clash_Leaf.l0 kj35 l2 l3 t123 (x13_1.set (x63_1 : Int).toNat (⟨t166, t169⟩ : S77)) a1 (wrap64 (x15_1 + t147)) x16_1 (l3.length : Int) (wrap64 (x63_1 + 1))) else (none)) else (none)))))) else (none))) else (none)) else (none)) = some (r1, r2, r3) := by first | (rw [hji41] at H; exact H) | (simp only [hji41] at H ⊢; exact H)
                (try rw [hji41] at A40)
                have hji41w : (IntKind.i64.wrap ((wrap64 ((l3.length : Int) - 1)) - x63_1)) = ji41 := (i64_w _).trans hji41
                by_cases c42 : 0 ≤ (ji41)
                ·rw [if_pos c42] at H
                 have c42b0 := eq_true c42
                 have c42b1 : decide (0 ≤ (ji41)) = true := decide_eq_true c42
                 clear c42
                 by_cases c43 : (ji41) ≤ (l3.length : Int)
                 ·rw [if_pos c43] at H
                  have c43b0 := eq_true c43
                  have c43b1 : decide ((ji41) ≤ (l3.length : Int)) = true := decide_eq_true c43
                  clear c43
                  replace H := Option.bind_eq_some_iff.mp H
                  obtain ⟨⟨t155, t156⟩, A440, H⟩ := H
                  replace H : (if (ji41) < (l3.length : Int) then ((seal_NodeBytes.f kj35 t155 (rdOf ByteArray.empty l3 (ji41))).bind fun t158 => (if (decide ((wrap64 (a1 - x15_1)) < t147)) = true then ((clash_halves.f kj35 y148).bind fun t161 => (if 0 ≤ x63_1 then (if x63_1 < (x13_1.length : Int) then (clash_Leaf.l0 kj35 l2 l3 t123 (x13_1.set (x63_1 : Int).toNat (⟨t158, t161⟩ : S77)) a1 x15_1 (wrap64 (x15_1 + t147)) (l3.length : Int) (wrap64 (x63_1 + 1))) else (none)) else (none))) else ((seal_NodeBytes.f kj35 (rdOf ByteArray.empty l3 (ji41)) t155).bind fun t166 => ((clash_halves.f kj35 y148).bind fun t169 => (if 0 ≤ x63_1 then (if x63_1 < (x13_1.length : Int) then (clash_Leaf.l0 kj35 l2 l3 t123 (x13_1.set (x63_1 : Int).toNat (⟨t166, t169⟩ : S77)) a1 (wrap64 (x15_1 + t147)) x16_1 (l3.length : Int) (wrap64 (x63_1 + 1))) else (none)) else (none)))))) else (none)) = some (r1, r2, r3) := H
                  have A44 := Aside0.mk A440
                  clear A440
                  by_cases c45 : (ji41) < (l3.length : Int)
                  ·rw [if_pos c45] at H
                   have c45b0 : decide ((ji41) < (l3.length : Int)) = true := decide_eq_true c45
                   clear c45
                   replace H := Option.bind_eq_some_iff.mp H
                   obtain ⟨t158, A460, H⟩ := H
                   replace H : (if (decide ((wrap64 (a1 - x15_1)) < t147)) = true then ((clash_halves.f kj35 y148).bind fun t161 => (if 0 ≤ x63_1 then (if x63_1 < (x13_1.length : Int) then (clash_Leaf.l0 kj35 l2 l3 t123 (x13_1.set (x63_1 : Int).toNat (⟨t158, t161⟩ : S77)) a1 x15_1 (wrap64 (x15_1 + t147)) (l3.length : Int) (wrap64 (x63_1 + 1))) else (none)) else (none))) else ((seal_NodeBytes.f kj35 (rdOf ByteArray.empty l3 (ji41)) t155).bind fun t166 => ((clash_halves.f kj35 y148).bind fun t169 => (if 0 ≤ x63_1 then (if x63_1 < (x13_1.length : Int) then (clash_Leaf.l0 kj35 l2 l3 t123 (x13_1.set (x63_1 : Int).toNat (⟨t166, t169⟩ : S77)) a1 (wrap64 (x15_1 + t147)) x16_1 (l3.length : Int) (wrap64 (x63_1 + 1))) else (none)) else (none))))) = some (r1, r2, r3) := H
                   have A46 := Aside0.mk A460
                   clear A460
                   by_cases c47 : (decide ((wrap64 (a1 - x15_1)) < t147)) = true
                   ·rw [if_pos c47] at H
                    have c47b0 : (decide ((wrap64 (a1 - x15_1)) < t147)) = true := c47
                    clear c47
                    replace H := Option.bind_eq_some_iff.mp H
                    obtain ⟨t161, A480, H⟩ := H
                    replace H : (if 0 ≤ x63_1 then (if x63_1 < (x13_1.length : Int) then (clash_Leaf.l0 kj35 l2 l3 t123 (x13_1.set (x63_1 : Int).toNat (⟨t158, t161⟩ : S77)) a1 x15_1 (wrap64 (x15_1 + t147)) (l3.length : Int) (wrap64 (x63_1 + 1))) else (none)) else (none)) = some (r1, r2, r3) := H
                    have A48 := Aside0.mk A480
                    clear A480
                    by_cases c49 : 0 ≤ x63_1
                    ·rw [if_pos c49] at H
                     have c49b0 : decide (0 ≤ x63_1) = true := decide_eq_true c49
                     clear c49
                     by_cases c50 : x63_1 < (x13_1.length : Int)
                     ·rw [if_pos c50] at H
                      have c50b0 : decide (x63_1 < (x13_1.length : Int)) = true := decide_eq_true c50
                      clear c50
                      obtain ⟨y164, hy164⟩ : ∃ y_ : List (S77), y_ = (x13_1.set (x63_1 : Int).toNat (⟨t158, t161⟩ : S77)) := ⟨_, rfl⟩
                      replace H : (clash_Leaf.l0 kj35 l2 l3 t123 y164 a1 x15_1 (wrap64 (x15_1 + t147)) (l3.length : Int) (wrap64 (x63_1 + 1))) = some (r1, r2, r3) := by first | (rw [hy164]; with_reducible exact H) | (have H2_ := (Option.bind_some _ _).symm.trans H; rw [hy164]; with_reducible exact H2_) | (have H2_ := (Option.bind_some _ _).symm.trans H; with_reducible exact H2_) | with_reducible exact H | (rw [hy164]; exact H) | exact H
                      have Ny164 := Aside0.mk hy164
                      clear hy164
                      have H' := Aside0.mk H
                      clear H
                      try go_wp2
                      have n0_ := Aside0.mk (Kd.R_drew HO_10.out)
                      have n1_ := Aside0.mk (Kd.N_drew HO_13.out)
                      have n2_ := Aside0.mk (Kd.V_drew HO_20.out)
                      have n3_ := Aside0.mk (blk_drew BK122.out)
                      have n4_ := Aside0.mk (below_drew1 HB.out)
                      clear HO_10
                      clear HO_13
                      clear HO_20
                      clear BK122
                      clear HB
                      have HO_10 := n0_
                      have HO_13 := n1_
                      have HO_20 := n2_
                      have BK122 := n3_
                      have HB := n4_
                      clear n0_ n1_ n2_ n3_ n4_
                      obtain ⟨i053, hi053, _, hsz53, _⟩ := info_parts info9
                      obtain ⟨hcut53, hA53, hC53⟩ := print_take_of (P := Tryd.prog) Value.string (⟨#[]⟩ : ByteArray) 22 9 .i64 Tryd.underlying22 hi053 hsz53 A3 c3 l3 (ji41) (of_decide_eq_true (by first | (with_reducible assumption) | assumption)) (of_decide_eq_true (by first | (with_reducible assumption) | assumption)) HC3.out
                      have HR154 := Aside0.mk (Kd.C_of_reads (h1 := fun _ => rfl) (hA53 _ (Kd.reads_of_C HR3.out)))
                      have HC154 := Aside0.mk hC53
                      clear hA53 hC53 hi053 hsz53
                      refine start_ (n := 13) (S := fun w' => True) (ds := []) #[false, false, false, false, false, false, false, false, false, false, false, false, false] (by kernel_rfl) rfl rfl trivial (fun hHeld => ?_); refine with_tabW clash_Leaf.tab18 clash_Leaf.bits18 (fun HT_ HW_ => ?_)
                      generalize wc.drew = w52 at HO_10 HO_13 HO_20 BK122 HB hHeld ⊢
                      refine HBulk.bulkT (fuel := 7) HT_.out HW_.out [(0, some 101, false), (2, some 103, false), (3, some 104, false), (4, some 105, false), (5, some 106, false), (6, some 107, false)] #[true, false, true, true, true, true, true, false, false, false, false, false, false] (a' := ?_) (by kernel_rfl) rfl hHeld ?_ ?_
                      rotate_left
                      ·repeat
                        refine HBulk.RunsM.cons (v := ?_) (a1 := ?_) rfl rfl (fun _ _ _ h => h) (by rfl) ?_ ?_ ?_
                        rotate_left
                        ·intro w' hS_
                         go_simp
                         with_reducible rfl
                        rotate_left
                        ·simp only [Act.put, List.setIfInBounds_toArray, List.set_cons_zero, List.set_cons_succ, i64_w, i32_w]
                         rfl
                       exact HBulk.RunsM.nil
                      refine one_ (i := 1) (N := some 102) #[true, true, true, true, true, true, true, false, false, false, false, false, false] rfl rfl (one_of HT_.out (by kernel_rfl)) (by decide) (fun K hK => ?_)
                      refine goes_ Tryd.func57 (by kernel_rfl) rfl #[.slice A2 l2.length c2] (by rfl) rfl rfl zm ?_
                      with_reducible refine (seal_Leaf.calls kj35 _ _ l2 t153 _ ?side3 ?side1 ?side2 A40.out).mono ?_
                      (case side1 => exact zc (Kd.C_below HR2.out HB.out))
                      (case side2 => exact HC2.out)
                      (case side3 => exact gw_step hG_ (zb1 HB.out GE122.out))
                      rintro e w54 ⟨rfl, hb⟩
                      refine ⟨_, rfl, ?_⟩
                      have n0_ := zR HO_10 hb
                      have n1_ := Aside0.mk (Kd.N_below (by (with_reducible repeat (first | apply Kd.N_alloc | apply Kd.N_drewN | apply Kd.N_drew)); exact HO_13.out) hb)
                      have n2_ := Aside0.mk (Kd.V_below (by (with_reducible repeat (first | apply Kd.V_alloc | apply Kd.V_drewN | apply Kd.V_drew)); exact HO_20.out) hb)
                      have n3_ := zK BK122 hb
                      have n4_ := zS1 HB GE122 hb
                      clear HO_10
                      clear HO_13
                      clear HO_20
                      clear BK122
                      clear HB
                      have HO_10 := n0_
                      have HO_13 := n1_
                      have HO_20 := n2_
                      have BK122 := n3_
                      have HB := n4_
                      clear n0_ n1_ n2_ n3_ n4_
                      (try clear hb)
                      (try clear hb2)
                      (try clear hk)
                      (try clear hi)
                      refine hK.out _ _ trivial (fun hHeld => ?_)
                      clear hK K
                      refine norm_ (a' := ?_) ?_ ?_
                      rotate_left
                      ·show Act.put _ (some 102) _ = _
                       simp only [Act.put, List.setIfInBounds_toArray, List.set_cons_zero, List.set_cons_succ, i64_w, i32_w]
                       rfl
                      refine one_ (i := 7) (N := some 108) #[true, true, true, true, true, true, true, true, false, false, false, false, false] rfl rfl (one_of HT_.out (by kernel_rfl)) (by decide) (fun K hK => ?_)
                      refine goes_ Tryd.func32 (by kernel_rfl) rfl #[.string t153, .int .i64 x22_35, .int .i64 x23_35, .slice A3 (l3.take ((ji41) : Int).toNat).length c3] (by rfl) rfl rfl (by (try simp only [List.map_toArray, List.map_cons, List.map_nil]); first | done | (rw [show (l3.take ((ji41) : Int).toNat).length = (ji41).toNat from (by rw [List.length_take]; have h_ : ((ji41) : Int) ≤ (l3.length : Int) := of_decide_eq_true (by first | (with_reducible assumption) | assumption); omega)] <;> rfl) | (simp only [hji41]; rfl) | rfl | (simp only [List.length_drop, List.length_take]; rfl)) ?_
                      with_reducible refine (tree_Climb.calls kj35 t153 x22_35 x23_35 _ _ (l3.take ((ji41) : Int).toNat) t155 t156 _ ?side3 ?side1 ?side2 A44.out).mono ?_
                      (case side1 => exact zc (Kd.C_below HR154.out HB.out))
                      (case side2 => exact HC154.out)
                      (case side3 => exact gw_step hG_ (zb1 HB.out GE122.out))
                      rintro e w55 ⟨rfl, hb⟩
                      refine ⟨_, rfl, ?_⟩
                      have n0_ := zR HO_10 hb
                      have n1_ := Aside0.mk (Kd.N_below (by (with_reducible repeat (first | apply Kd.N_alloc | apply Kd.N_drewN | apply Kd.N_drew)); exact HO_13.out) hb)
                      have n2_ := Aside0.mk (Kd.V_below (by (with_reducible repeat (first | apply Kd.V_alloc | apply Kd.V_drewN | apply Kd.V_drew)); exact HO_20.out) hb)
                      have n3_ := zK BK122 hb
                      have n4_ := zS1 HB GE122 hb
                      clear HO_10
                      clear HO_13
                      clear HO_20
                      clear BK122
                      clear HB
                      have HO_10 := n0_
                      have HO_13 := n1_
                      have HO_20 := n2_
                      have BK122 := n3_
                      have HB := n4_
                      clear n0_ n1_ n2_ n3_ n4_
                      (try clear hb)
                      (try clear hb2)
                      (try clear hk)
                      (try clear hi)
                      refine hK.out _ _ trivial (fun hHeld => ?_)
                      clear hK K
                      refine norm_ (a' := ?_) ?_ ?_
                      rotate_left
                      ·show Act.put _ (some 108) _ = _
                       simp only [Act.put, List.setIfInBounds_toArray, List.set_cons_zero, List.set_cons_succ, i64_w, i32_w]
                       rfl
                      refine HBulk.bulkT (fuel := 0) HT_.out HW_.out [(8, some 100, false), (9, some 109, false), (10, some 110, false), (11, some 24, false), (12, some 25, false)] #[true, true, true, true, true, true, true, true, true, true, true, true, true] (a' := ?_) (by kernel_rfl) rfl hHeld ?_ ?_
                      rotate_left
                      ·repeat
                        refine HBulk.RunsM.cons (v := ?_) (a1 := ?_) rfl rfl (fun _ _ _ h => h) (by rfl) ?_ ?_ ?_
                        rotate_left
                        ·intro w' hS_
                         go_simp
                         with_reducible rfl
                        rotate_left
                        ·simp only [Act.put, List.setIfInBounds_toArray, List.set_cons_zero, List.set_cons_succ, i64_w, i32_w]
                         rfl
                       exact HBulk.RunsM.nil
                      refine done_ (done_of HT_.out (by kernel_rfl)) ?_
                      have p157 : 0 ≤ ((ji41) : Int) := of_decide_eq_true (by first | (with_reducible assumption) | assumption)
                      have q157 : (ji41) < (l3.length : Int) := of_decide_eq_true (by first | (with_reducible assumption) | assumption)
                      obtain ⟨ad157, e157, hx157_0⟩ := Kd.at_string HR3.out (ji41) p157 q157
                      cases e157
                      replace hx157_0 := (HB.out.cell (World.block_lt_of_cell? w _ hx157_0)).trans hx157_0
                      replace p157 := eq_true p157
                      replace q157 := eq_true q157
                      try go_wp2_with (first | ((with_reducible refine gate_callee (f := 59) rfl ?_); refine goesL_ (some 116) rfl rfl Tryd.func59 (by kernel_rfl) rfl #[.string t155, .string (rdOf ByteArray.empty l3 (ji41))] rfl (by (try simp only [List.map_toArray, List.map_cons, List.map_nil]); first | done | (simp only [hji41]; rfl) | rfl | (simp only [List.length_drop, List.length_take]; rfl)) ?_; (with_reducible refine (seal_NodeBytes.calls kj35 t155 (rdOf ByteArray.empty l3 (ji41)) t158 _ A46.out).mono ?_); rintro e w56 ⟨v159, rfl, ho0, hb⟩; refine ⟨_, rfl, ?_⟩; have n0_ := zR HO_10 hb; have n1_ := Aside0.mk (Kd.N_elder' (by (with_reducible repeat (first | apply Kd.N_alloc | apply Kd.N_drewN | apply Kd.N_drew)); exact HO_13.out) (Kd.R_base ho0) hb); have n2_ := Aside0.mk (Kd.V_elder' (by (with_reducible repeat (first | apply Kd.V_alloc | apply Kd.V_drewN | apply Kd.V_drew)); exact HO_20.out) (Kd.R_base ho0) hb); have n3_ := zL1 ho0 HB GE122; have n4_ := zK BK122 hb; have n5_ := zS1 HB GE122 hb; clear HO_10; clear HO_13; clear HO_20; clear BK122; clear HB; have HO_10 := n0_; have HO_13 := n1_; have HO_20 := n2_; have HO160 := n3_; have BK122 := n4_; have HB := n5_; clear n0_ n1_ n2_ n3_ n4_ n5_; (try clear hb); (try clear hb2); (try clear hk); (try clear hi); (try clear ho0)) | ((with_reducible refine gate_callee (f := 60) rfl ?_); refine goesL_ (some 129) rfl rfl Tryd.func60 (by kernel_rfl) rfl #[.slice A37 y148.length c37] rfl zm ?_; (with_reducible refine (clash_halves.calls kj35 _ _ y148 t161 _ ?side3 ?side1 ?side2 A48.out).mono ?_); (case side1 => exact zc (Kd.V_reads' HO_20.out).2.2); (case side2 => exact (Kd.V_reads' HO_20.out).2.1); (case side3 => exact gw_step hG_ (zb1 HB.out GE122.out)); rintro e w57 ⟨v162, rfl, ho0, hb⟩; refine ⟨_, rfl, ?_⟩; have n0_ := zR HO_10 hb; have n1_ := Aside0.mk (Kd.N_elder' (by (with_reducible repeat (first | apply Kd.N_alloc | apply Kd.N_drewN | apply Kd.N_drew)); exact HO_13.out) (Kd.R_base ho0) hb); have n2_ := Aside0.mk (Kd.V_elder' (by (with_reducible repeat (first | apply Kd.V_alloc | apply Kd.V_drewN | apply Kd.V_drew)); exact HO_20.out) (Kd.R_base ho0) hb); have n3_ := Aside0.mk (Kd.R_elder' (zr HO160.out) (Kd.R_base ho0) hb); have n4_ := Aside0.mk (Kd.R_lower (Kd.R_new' ho0 (Kd.R_lt (zr HO160.out))) (below_size (zb1 HB.out GE122.out))); have n5_ := zK BK122 hb; have n6_ := zS1 HB GE122 hb; clear HO_10; clear HO_13; clear HO_20; clear HO160; clear BK122; clear HB; have HO_10 := n0_; have HO_13 := n1_; have HO_20 := n2_; have HO160 := n3_; have HO163 := n4_; have BK122 := n5_; have HB := n6_; clear n0_ n1_ n2_ n3_ n4_ n5_ n6_; (try clear hb); (try clear hb2); (try clear hk); (try clear hi); (try clear ho0); obtain ⟨Ao58, co58, eo58⟩ := Kd.R_slice HO163.out; subst eo58; obtain ⟨Ao59, co59, eo59⟩ := Kd.R_slice HO160.out; subst eo59; have p51 : 0 ≤ (x63_1 : Int) := of_decide_eq_true (by first | (with_reducible assumption) | assumption); have q51 : (x63_1 : Int) < ((x13_1.length : Int) : Int) := of_decide_eq_true (by first | (with_reducible assumption) | assumption); obtain ⟨ce51, hcl51, hM51, hcc51, hfr51⟩ := Kd.N_elem HO_13.out z77 (x63_1 : Int) p51 q51; obtain ⟨ua51_0, uc51_0, ua51_1, uc51_1, rfl, ul51_0, ge51_0, ul51_1, ge51_1⟩ := k77_openF hM51; have hx51_0 : w57.cell? ⟨go18, (x63_1 : Int).toNat * 2, none⟩ = some (.slice ua51_0 ((rd_T77 x13_1 x63_1).f0).length uc51_0) := hcc51 0 _ rfl; have hx51_1 : w57.cell? ⟨go18, (x63_1 : Int).toNat * 2 + 1, none⟩ = some (.slice ua51_1 ((rd_T77 x13_1 x63_1).f1).length uc51_1) := hcc51 1 _ rfl; have hf51_0 : w57.frozen? ⟨go18, (x63_1 : Int).toNat * 2, none⟩ = false := hfr51 0; have hf51_1 : w57.frozen? ⟨go18, (x63_1 : Int).toNat * 2 + 1, none⟩ = false := hfr51 1; clear hcl51 hcc51 hfr51 hM51; replace p51 := eq_true p51; replace q51 := eq_true q51; have n_ := Aside0.mk (Kd.N_mono (ok' := (fun k_ => some k_ ≠ (.slice Ao38 t123.length co38 : Value).ownBlock ∧ some k_ ≠ (.slice Ao59 t158.length co59 : Value).ownBlock ∧ some k_ ≠ (.slice Ao58 t161.length co58 : Value).ownBlock ∧ k_ ≠ gb122)) HO_13.out (fun k_ hk => ⟨hk.1.1.1, ⟨hk.1.2, ⟨hk.2, hk.1.1.2⟩⟩⟩)); clear HO_13; have HO_13 := n_; clear n_; have HX60 := Aside0.mk (show Kd.N k77 77 w57 w.heap.size (fun k_ => some k_ ≠ (.slice Ao38 t123.length co38 : Value).ownBlock ∧ k_ ≠ gb122) (.slice (some ⟨go18, 0, none⟩) x13_1.length co18) x13_1 from (by (with_reducible repeat (first | apply Kd.N_alloc | apply Kd.N_drewN | apply Kd.N_drew)); exact Kd.N_mono HO_13.out (fun _ hk => ⟨hk.1, hk.2.2.2⟩))); obtain ⟨ce60, hcl60, hM60, hcc60, hfr60⟩ := Kd.N_elem HX60.out z77 (x63_1 : Int) (of_decide_eq_true (by first | (with_reducible assumption) | assumption)) (by have h_ : (x63_1 : Int) < ((x13_1.length : Int) : Int) := of_decide_eq_true (by first | (with_reducible assumption) | assumption); first | exact h_ | (have e_ := (Kd.N_reads' HO_13.out).1; omega) | simpa using h_); obtain ⟨ua60_0, uc60_0, ua60_1, uc60_1, rfl, ul60_0, ge60_0, ul60_1, ge60_1⟩ := k77_openF hM60; have HP60 := Kd.N_seg HX60.out (x63_1 : Int) (of_decide_eq_true (by first | (with_reducible assumption) | assumption)) (by have h_ : (x63_1 : Int) < ((x13_1.length : Int) : Int) := of_decide_eq_true (by first | (with_reducible assumption) | assumption); first | exact h_ | (have e_ := (Kd.N_reads' HO_13.out).1; omega) | simpa using h_) (seg := [.slice Ao59 t158.length co59, .slice Ao58 t161.length co58]) (j := 0) hcl60 hcc60 (show 2 ≤ 2 from by decide) (x' := (⟨t158, t161⟩ : S77)) (k77_mkF _ _ (⟨t158, t161⟩ : S77) (Kd.R_reads' (Kd.R_mono (ok' := (fun k_ => ((fun k_ => some k_ ≠ (.slice Ao38 t123.length co38 : Value).ownBlock ∧ k_ ≠ gb122)) k_ ∧ k_ ≠ go18)) (Kd.R_types (Kd.R_apart' (Kd.R_apart' (HO160.out) (Kd.R_typed HO_10.out) (by decide)) (Kd.N_typed HO_13.out) (by decide)) BK122.out (by decide)) (fun k_ hk => ⟨⟨hk.1.1.2, hk.2⟩, fun e_ => (hk.1.2) (by rw [e_]; rfl)⟩))).2.1 (Kd.R_F (Kd.R_mono (ok' := (fun k_ => ((fun k_ => some k_ ≠ (.slice Ao38 t123.length co38 : Value).ownBlock ∧ k_ ≠ gb122)) k_ ∧ k_ ≠ go18)) (Kd.R_types (Kd.R_apart' (Kd.R_apart' (HO160.out) (Kd.R_typed HO_10.out) (by decide)) (Kd.N_typed HO_13.out) (by decide)) BK122.out (by decide)) (fun k_ hk => ⟨⟨hk.1.1.2, hk.2⟩, fun e_ => (hk.1.2) (by rw [e_]; rfl)⟩))) (Kd.R_reads' (Kd.R_mono (ok' := (fun k_ => ((fun k_ => some k_ ≠ (.slice Ao38 t123.length co38 : Value).ownBlock ∧ k_ ≠ gb122)) k_ ∧ k_ ≠ go18)) (Kd.R_types (Kd.R_apart' (Kd.R_apart' (HO163.out) (Kd.R_typed HO_10.out) (by decide)) (Kd.N_typed HO_13.out) (by decide)) BK122.out (by decide)) (fun k_ hk => ⟨⟨hk.1.1.2, hk.2⟩, fun e_ => (hk.1.2) (by rw [e_]; rfl)⟩))).2.1 (Kd.R_F (Kd.R_mono (ok' := (fun k_ => ((fun k_ => some k_ ≠ (.slice Ao38 t123.length co38 : Value).ownBlock ∧ k_ ≠ gb122)) k_ ∧ k_ ≠ go18)) (Kd.R_types (Kd.R_apart' (Kd.R_apart' (HO163.out) (Kd.R_typed HO_10.out) (by decide)) (Kd.N_typed HO_13.out) (by decide)) BK122.out (by decide)) (fun k_ hk => ⟨⟨hk.1.1.2, hk.2⟩, fun e_ => (hk.1.2) (by rw [e_]; rfl)⟩)))) (fun _ hk => hk); have hx60_0 := hcc60 0 _ rfl; (try simp only [show (k77).sz = 2 from rfl, Nat.mul_one, Nat.add_zero] at hx60_0); have hf60_0 := hfr60 0; (try simp only [show (k77).sz = 2 from rfl, Nat.mul_one, Nat.add_zero] at hf60_0); have hx60_1 := hcc60 1 _ rfl; (try simp only [show (k77).sz = 2 from rfl, Nat.mul_one, Nat.add_zero] at hx60_1); have hf60_1 := hfr60 1; (try simp only [show (k77).sz = 2 from rfl, Nat.mul_one, Nat.add_zero] at hf60_1); clear hcl60 hcc60 hfr60 hM60) | ((with_reducible refine gate_store (t := 77) (p := 131) rfl ?_); refine store_event (t := 77) (p := 131) (v := ?vo_w61) (w1 := ((w57.setCell ⟨go18, (x63_1 : Int).toNat * 2, none⟩ (.slice Ao59 t158.length co59)).setCell ⟨go18, (x63_1 : Int).toNat * 2 + 1, none⟩ (.slice Ao58 t161.length co58))) ?hg ?ho ?hn ?hr ?_; (case ho => rfl); (case hg => rfl); (case hn => rfl); (case hr => first | (go_simp; done) | (go_simp; rfl)); intro w61 hw; have hg : w57.grownBy w61 (some go18) := (by rw [hw]; exact HP60.2); have hp_ : Kd.N k77 77 w61 w.heap.size (fun k_ => some k_ ≠ (.slice Ao38 t123.length co38 : Value).ownBlock ∧ k_ ≠ gb122) (.slice (some ⟨go18, 0, none⟩) x13_1.length co18) y164 := (by rw [hw, Ny164.out]; exact HP60.1); clear HP60; have n0_ := Aside0.mk (Kd.R_over' (v := (.slice (some ⟨go18, 0, none⟩) x13_1.length co18)) (zr HO_10.out) (Kd.N_typed HO_13.out) (by decide) hg); have n1_ := Aside0.mk (hp_); have n2_ := Aside0.mk (Kd.V_afterv (v := (.slice (some ⟨go18, 0, none⟩) x13_1.length co18)) (v1 := (.slice (some ⟨go18, 0, none⟩) x13_1.length co18)) (ok := (fun k_ => some k_ ≠ (.slice Ao59 t158.length co59 : Value).ownBlock ∧ some k_ ≠ (.slice Ao58 t161.length co58 : Value).ownBlock ∧ k_ ≠ gb122)) (by (with_reducible repeat (first | apply Kd.V_alloc | apply Kd.V_drewN | apply Kd.V_drew)); exact Kd.V_mono HO_20.out (fun _ hk => ⟨⟨hk.1.2, ⟨hk.2, hk.1.1.2⟩⟩, hk.1.1.1⟩)) hg (.inl rfl)); have n3_ := Aside0.mk (blk_grown (g := gb122) (o := .cells #[.slice none 0 0, .slice none 0 0] 44 (0, 0)) (zk BK122.out) hg (Kd.N_ne HO_13.out BK122.out (by decide))); have n4_ := Aside0.mk ((by rw [hw]; exact below_set (below_set (HB.out) GB18.out) GB18.out : Below w.heap.size w w61)); clear HO_10; clear HO_13; clear HO_20; clear BK122; clear HB; clear HO160; clear HO163; have HO_10 := n0_; have HO_13 := n1_; have HO_20 := n2_; have BK122 := n3_; have HB := n4_; clear n0_ n1_ n2_ n3_ n4_; clear hg hw hp_))
                      (try simp only [← hl13_1])
                      go_roundg kj35
                      case measure => have := HK1.out; have := HJ35.out; omega
                      case rel => exact ⟨(y164), (x15_1), (wrap64 (x15_1 + t147)), (wrap64 (x63_1 + 1)), (by first | rfl | (simp; done) | (simp [*]; done)), (by first | rfl | (simp; done) | (simp [*]; done)), (by first | rfl | (simp; done) | (simp [*]; done)), H', ⟨by have := HK1.out; have := HJ35.out; omega⟩, ⟨by (try simp only [hl13_1]); (with_reducible repeat (first | apply Kd.R_alloc | apply Kd.R_drewN | apply Kd.R_drew)); exact HO_10.out⟩, ⟨by (try simp only [hl13_1]); (with_reducible repeat (first | apply Kd.N_alloc | apply Kd.N_drewN | apply Kd.N_drew)); exact HO_13.out⟩, ⟨by (try simp only [hl13_1]); (with_reducible repeat (first | refine blk_drewN ?_ _ | refine blk_drew ?_ | refine blk_alloc ?_ _)); exact BK122.out⟩, ⟨by repeat (first | (with_reducible first | exact HB.out | apply below_alloc | apply pw_below_drewN | apply below_drew1 | refine below_set ?_ GE122.out) | exact HB.out)⟩⟩
                     ·rw [if_neg c50] at H
                      exact absurd H (by simp)
                    ·rw [if_neg c49] at H
                     exact absurd H (by simp)
                   ·rw [if_neg c47] at H
                    have c47b0 : (decide ((wrap64 (a1 - x15_1)) < t147)) = false := by simpa using c47
                    clear c47
                    replace H := Option.bind_eq_some_iff.mp H
                    obtain ⟨t166, A620, H⟩ := H
                    replace H : ((clash_halves.f kj35 y148).bind fun t169 => (if 0 ≤ x63_1 then (if x63_1 < (x13_1.length : Int) then (clash_Leaf.l0 kj35 l2 l3 t123 (x13_1.set (x63_1 : Int).toNat (⟨t166, t169⟩ : S77)) a1 (wrap64 (x15_1 + t147)) x16_1 (l3.length : Int) (wrap64 (x63_1 + 1))) else (none)) else (none))) = some (r1, r2, r3) := H
                    have A62 := Aside0.mk A620
                    clear A620
                    replace H := Option.bind_eq_some_iff.mp H
                    obtain ⟨t169, A630, H⟩ := H
                    replace H : (if 0 ≤ x63_1 then (if x63_1 < (x13_1.length : Int) then (clash_Leaf.l0 kj35 l2 l3 t123 (x13_1.set (x63_1 : Int).toNat (⟨t166, t169⟩ : S77)) a1 (wrap64 (x15_1 + t147)) x16_1 (l3.length : Int) (wrap64 (x63_1 + 1))) else (none)) else (none)) = some (r1, r2, r3) := H
                    have A63 := Aside0.mk A630
                    clear A630
                    by_cases c64 : 0 ≤ x63_1
                    ·rw [if_pos c64] at H
                     have c64b0 : decide (0 ≤ x63_1) = true := decide_eq_true c64
                     clear c64
                     by_cases c65 : x63_1 < (x13_1.length : Int)
                     ·rw [if_pos c65] at H
                      have c65b0 : decide (x63_1 < (x13_1.length : Int)) = true := decide_eq_true c65
                      clear c65
                      obtain ⟨y172, hy172⟩ : ∃ y_ : List (S77), y_ = (x13_1.set (x63_1 : Int).toNat (⟨t166, t169⟩ : S77)) := ⟨_, rfl⟩
                      replace H : (clash_Leaf.l0 kj35 l2 l3 t123 y172 a1 (wrap64 (x15_1 + t147)) x16_1 (l3.length : Int) (wrap64 (x63_1 + 1))) = some (r1, r2, r3) := by first | (rw [hy172]; with_reducible exact H) | (have H2_ := (Option.bind_some _ _).symm.trans H; rw [hy172]; with_reducible exact H2_) | (have H2_ := (Option.bind_some _ _).symm.trans H; with_reducible exact H2_) | with_reducible exact H | (rw [hy172]; exact H) | exact H
                      have Ny172 := Aside0.mk hy172
                      clear hy172
                      have H' := Aside0.mk H
                      clear H
                      try go_wp2
                      have n0_ := Aside0.mk (Kd.R_drew HO_10.out)
                      have n1_ := Aside0.mk (Kd.N_drew HO_13.out)
                      have n2_ := Aside0.mk (Kd.V_drew HO_20.out)
                      have n3_ := Aside0.mk (blk_drew BK122.out)
                      have n4_ := Aside0.mk (below_drew1 HB.out)
                      clear HO_10
                      clear HO_13
                      clear HO_20
                      clear BK122
                      clear HB
                      have HO_10 := n0_
                      have HO_13 := n1_
                      have HO_20 := n2_
                      have BK122 := n3_
                      have HB := n4_
                      clear n0_ n1_ n2_ n3_ n4_
                      obtain ⟨i068, hi068, _, hsz68, _⟩ := info_parts info9
                      obtain ⟨hcut68, hA68, hC68⟩ := print_take_of (P := Tryd.prog) Value.string (⟨#[]⟩ : ByteArray) 22 9 .i64 Tryd.underlying22 hi068 hsz68 A3 c3 l3 (ji41) (of_decide_eq_true (by first | (with_reducible assumption) | assumption)) (of_decide_eq_true (by first | (with_reducible assumption) | assumption)) HC3.out
                      have HR154 := Aside0.mk (Kd.C_of_reads (h1 := fun _ => rfl) (hA68 _ (Kd.reads_of_C HR3.out)))
                      have HC154 := Aside0.mk hC68
                      clear hA68 hC68 hi068 hsz68
                      refine start_ (n := 13) (S := fun w' => True) (ds := []) #[false, false, false, false, false, false, false, false, false, false, false, false, false] (by kernel_rfl) rfl rfl trivial (fun hHeld => ?_); refine with_tabW clash_Leaf.tab18 clash_Leaf.bits18 (fun HT_ HW_ => ?_)
                      generalize wc.drew = w67 at HO_10 HO_13 HO_20 BK122 HB hHeld ⊢
                      refine HBulk.bulkT (fuel := 7) HT_.out HW_.out [(0, some 101, false), (2, some 103, false), (3, some 104, false), (4, some 105, false), (5, some 106, false), (6, some 107, false)] #[true, false, true, true, true, true, true, false, false, false, false, false, false] (a' := ?_) (by kernel_rfl) rfl hHeld ?_ ?_
                      rotate_left
                      ·repeat
                        refine HBulk.RunsM.cons (v := ?_) (a1 := ?_) rfl rfl (fun _ _ _ h => h) (by rfl) ?_ ?_ ?_
                        rotate_left
                        ·intro w' hS_
                         go_simp
                         with_reducible rfl
                        rotate_left
                        ·simp only [Act.put, List.setIfInBounds_toArray, List.set_cons_zero, List.set_cons_succ, i64_w, i32_w]
                         rfl
                       exact HBulk.RunsM.nil
                      refine one_ (i := 1) (N := some 102) #[true, true, true, true, true, true, true, false, false, false, false, false, false] rfl rfl (one_of HT_.out (by kernel_rfl)) (by decide) (fun K hK => ?_)
                      refine goes_ Tryd.func57 (by kernel_rfl) rfl #[.slice A2 l2.length c2] (by rfl) rfl rfl zm ?_
                      with_reducible refine (seal_Leaf.calls kj35 _ _ l2 t153 _ ?side3 ?side1 ?side2 A40.out).mono ?_
                      (case side1 => exact zc (Kd.C_below HR2.out HB.out))
                      (case side2 => exact HC2.out)
                      (case side3 => exact gw_step hG_ (zb1 HB.out GE122.out))
                      rintro e w69 ⟨rfl, hb⟩
                      refine ⟨_, rfl, ?_⟩
                      have n0_ := zR HO_10 hb
                      have n1_ := Aside0.mk (Kd.N_below (by (with_reducible repeat (first | apply Kd.N_alloc | apply Kd.N_drewN | apply Kd.N_drew)); exact HO_13.out) hb)
                      have n2_ := Aside0.mk (Kd.V_below (by (with_reducible repeat (first | apply Kd.V_alloc | apply Kd.V_drewN | apply Kd.V_drew)); exact HO_20.out) hb)
                      have n3_ := zK BK122 hb
                      have n4_ := zS1 HB GE122 hb
                      clear HO_10
                      clear HO_13
                      clear HO_20
                      clear BK122
                      clear HB
                      have HO_10 := n0_
                      have HO_13 := n1_
                      have HO_20 := n2_
                      have BK122 := n3_
                      have HB := n4_
                      clear n0_ n1_ n2_ n3_ n4_
                      (try clear hb)
                      (try clear hb2)
                      (try clear hk)
                      (try clear hi)
                      refine hK.out _ _ trivial (fun hHeld => ?_)
                      clear hK K
                      refine norm_ (a' := ?_) ?_ ?_
                      rotate_left
                      ·show Act.put _ (some 102) _ = _
                       simp only [Act.put, List.setIfInBounds_toArray, List.set_cons_zero, List.set_cons_succ, i64_w, i32_w]
                       rfl
                      refine one_ (i := 7) (N := some 108) #[true, true, true, true, true, true, true, true, false, false, false, false, false] rfl rfl (one_of HT_.out (by kernel_rfl)) (by decide) (fun K hK => ?_)
                      refine goes_ Tryd.func32 (by kernel_rfl) rfl #[.string t153, .int .i64 x22_35, .int .i64 x23_35, .slice A3 (l3.take ((ji41) : Int).toNat).length c3] (by rfl) rfl rfl (by (try simp only [List.map_toArray, List.map_cons, List.map_nil]); first | done | (rw [show (l3.take ((ji41) : Int).toNat).length = (ji41).toNat from (by rw [List.length_take]; have h_ : ((ji41) : Int) ≤ (l3.length : Int) := of_decide_eq_true (by first | (with_reducible assumption) | assumption); omega)] <;> rfl) | (simp only [hji41]; rfl) | rfl | (simp only [List.length_drop, List.length_take]; rfl)) ?_
                      with_reducible refine (tree_Climb.calls kj35 t153 x22_35 x23_35 _ _ (l3.take ((ji41) : Int).toNat) t155 t156 _ ?side3 ?side1 ?side2 A44.out).mono ?_
                      (case side1 => exact zc (Kd.C_below HR154.out HB.out))
                      (case side2 => exact HC154.out)
                      (case side3 => exact gw_step hG_ (zb1 HB.out GE122.out))
                      rintro e w70 ⟨rfl, hb⟩
                      refine ⟨_, rfl, ?_⟩
                      have n0_ := zR HO_10 hb
                      have n1_ := Aside0.mk (Kd.N_below (by (with_reducible repeat (first | apply Kd.N_alloc | apply Kd.N_drewN | apply Kd.N_drew)); exact HO_13.out) hb)
                      have n2_ := Aside0.mk (Kd.V_below (by (with_reducible repeat (first | apply Kd.V_alloc | apply Kd.V_drewN | apply Kd.V_drew)); exact HO_20.out) hb)
                      have n3_ := zK BK122 hb
                      have n4_ := zS1 HB GE122 hb
                      clear HO_10
                      clear HO_13
                      clear HO_20
                      clear BK122
                      clear HB
                      have HO_10 := n0_
                      have HO_13 := n1_
                      have HO_20 := n2_
                      have BK122 := n3_
                      have HB := n4_
                      clear n0_ n1_ n2_ n3_ n4_
                      (try clear hb)
                      (try clear hb2)
                      (try clear hk)
                      (try clear hi)
                      refine hK.out _ _ trivial (fun hHeld => ?_)
                      clear hK K
                      refine norm_ (a' := ?_) ?_ ?_
                      rotate_left
                      ·show Act.put _ (some 108) _ = _
                       simp only [Act.put, List.setIfInBounds_toArray, List.set_cons_zero, List.set_cons_succ, i64_w, i32_w]
                       rfl
                      refine HBulk.bulkT (fuel := 0) HT_.out HW_.out [(8, some 100, false), (9, some 109, false), (10, some 110, false), (11, some 24, false), (12, some 25, false)] #[true, true, true, true, true, true, true, true, true, true, true, true, true] (a' := ?_) (by kernel_rfl) rfl hHeld ?_ ?_
                      rotate_left
                      ·repeat
                        refine HBulk.RunsM.cons (v := ?_) (a1 := ?_) rfl rfl (fun _ _ _ h => h) (by rfl) ?_ ?_ ?_
                        rotate_left
                        ·intro w' hS_
                         go_simp
                         with_reducible rfl
                        rotate_left
                        ·simp only [Act.put, List.setIfInBounds_toArray, List.set_cons_zero, List.set_cons_succ, i64_w, i32_w]
                         rfl
                       exact HBulk.RunsM.nil
                      refine done_ (done_of HT_.out (by kernel_rfl)) ?_
                      have p157 : 0 ≤ ((ji41) : Int) := of_decide_eq_true (by first | (with_reducible assumption) | assumption)
                      have q157 : (ji41) < (l3.length : Int) := of_decide_eq_true (by first | (with_reducible assumption) | assumption)
                      obtain ⟨ad157, e157, hx157_0⟩ := Kd.at_string HR3.out (ji41) p157 q157
                      cases e157
                      replace hx157_0 := (HB.out.cell (World.block_lt_of_cell? w _ hx157_0)).trans hx157_0
                      replace p157 := eq_true p157
                      replace q157 := eq_true q157
                      try go_wp2_with (first | ((with_reducible refine gate_callee (f := 59) rfl ?_); refine goesL_ (some 116) rfl rfl Tryd.func59 (by kernel_rfl) rfl #[.string t155, .string (rdOf ByteArray.empty l3 (ji41))] rfl (by (try simp only [List.map_toArray, List.map_cons, List.map_nil]); first | done | (simp only [hji41]; rfl) | rfl | (simp only [List.length_drop, List.length_take]; rfl)) ?_; (with_reducible refine (seal_NodeBytes.calls kj35 t155 (rdOf ByteArray.empty l3 (ji41)) t158 _ A46.out).mono ?_); rintro e w71 ⟨v159, rfl, ho0, hb⟩; refine ⟨_, rfl, ?_⟩; have n0_ := zR HO_10 hb; have n1_ := Aside0.mk (Kd.N_elder' (by (with_reducible repeat (first | apply Kd.N_alloc | apply Kd.N_drewN | apply Kd.N_drew)); exact HO_13.out) (Kd.R_base ho0) hb); have n2_ := Aside0.mk (Kd.V_elder' (by (with_reducible repeat (first | apply Kd.V_alloc | apply Kd.V_drewN | apply Kd.V_drew)); exact HO_20.out) (Kd.R_base ho0) hb); have n3_ := zL1 ho0 HB GE122; have n4_ := zK BK122 hb; have n5_ := zS1 HB GE122 hb; clear HO_10; clear HO_13; clear HO_20; clear BK122; clear HB; have HO_10 := n0_; have HO_13 := n1_; have HO_20 := n2_; have HO160 := n3_; have BK122 := n4_; have HB := n5_; clear n0_ n1_ n2_ n3_ n4_ n5_; (try clear hb); (try clear hb2); (try clear hk); (try clear hi); (try clear ho0); have p165 : 0 ≤ ((ji41) : Int) := of_decide_eq_true (by first | (with_reducible assumption) | assumption); have q165 : (ji41) < (l3.length : Int) := of_decide_eq_true (by first | (with_reducible assumption) | assumption); obtain ⟨ad165, e165, hx165_0⟩ := Kd.at_string HR3.out (ji41) p165 q165; obtain rfl : ad157 = ad165 := (by injection e165); replace hx165_0 := (HB.out.cell (World.block_lt_of_cell? w _ hx165_0)).trans hx165_0; replace p165 := eq_true p165; replace q165 := eq_true q165) | ((with_reducible refine gate_callee (f := 59) rfl ?_); refine goesL_ (some 124) rfl rfl Tryd.func59 (by kernel_rfl) rfl #[.string (rdOf ByteArray.empty l3 (ji41)), .string t155] rfl (by (try simp only [List.map_toArray, List.map_cons, List.map_nil]); first | done | (simp only [hji41]; rfl) | rfl | (simp only [List.length_drop, List.length_take]; rfl)) ?_; (with_reducible refine (seal_NodeBytes.calls kj35 (rdOf ByteArray.empty l3 (ji41)) t155 t166 _ A62.out).mono ?_); rintro e w72 ⟨v167, rfl, ho0, hb⟩; refine ⟨_, rfl, ?_⟩; have n0_ := zR HO_10 hb; have n1_ := Aside0.mk (Kd.N_elder' (by (with_reducible repeat (first | apply Kd.N_alloc | apply Kd.N_drewN | apply Kd.N_drew)); exact HO_13.out) (Kd.R_base ho0) hb); have n2_ := Aside0.mk (Kd.V_elder' (by (with_reducible repeat (first | apply Kd.V_alloc | apply Kd.V_drewN | apply Kd.V_drew)); exact HO_20.out) (Kd.R_base ho0) hb); have n3_ := Aside0.mk (Kd.R_elder' (zr HO160.out) (Kd.R_base ho0) hb); have n4_ := Aside0.mk (Kd.R_lower (Kd.R_new' ho0 (Kd.R_lt (zr HO160.out))) (below_size (zb1 HB.out GE122.out))); have n5_ := zK BK122 hb; have n6_ := zS1 HB GE122 hb; clear HO_10; clear HO_13; clear HO_20; clear HO160; clear BK122; clear HB; have HO_10 := n0_; have HO_13 := n1_; have HO_20 := n2_; have HO160 := n3_; have HO168 := n4_; have BK122 := n5_; have HB := n6_; clear n0_ n1_ n2_ n3_ n4_ n5_ n6_; (try clear hb); (try clear hb2); (try clear hk); (try clear hi); (try clear ho0)) | ((with_reducible refine gate_callee (f := 60) rfl ?_); refine goesL_ (some 129) rfl rfl Tryd.func60 (by kernel_rfl) rfl #[.slice A37 y148.length c37] rfl zm ?_; (with_reducible refine (clash_halves.calls kj35 _ _ y148 t169 _ ?side3 ?side1 ?side2 A63.out).mono ?_); (case side1 => exact zc (Kd.V_reads' HO_20.out).2.2); (case side2 => exact (Kd.V_reads' HO_20.out).2.1); (case side3 => exact gw_step hG_ (zb1 HB.out GE122.out)); rintro e w73 ⟨v170, rfl, ho0, hb⟩; refine ⟨_, rfl, ?_⟩; have n0_ := zR HO_10 hb; have n1_ := Aside0.mk (Kd.N_elder' (by (with_reducible repeat (first | apply Kd.N_alloc | apply Kd.N_drewN | apply Kd.N_drew)); exact HO_13.out) (Kd.R_base ho0) hb); have n2_ := Aside0.mk (Kd.V_elder' (by (with_reducible repeat (first | apply Kd.V_alloc | apply Kd.V_drewN | apply Kd.V_drew)); exact HO_20.out) (Kd.R_base ho0) hb); have n3_ := Aside0.mk (Kd.R_elder' (zr HO160.out) (Kd.R_base ho0) hb); have n4_ := Aside0.mk (Kd.R_elder' (zr HO168.out) (Kd.R_base ho0) hb); have n5_ := Aside0.mk (Kd.R_lower (Kd.R_new' (Kd.R_new' ho0 (Kd.R_lt (zr HO160.out))) (Kd.R_lt (zr HO168.out))) (below_size (zb1 HB.out GE122.out))); have n6_ := zK BK122 hb; have n7_ := zS1 HB GE122 hb; clear HO_10; clear HO_13; clear HO_20; clear HO160; clear HO168; clear BK122; clear HB; have HO_10 := n0_; have HO_13 := n1_; have HO_20 := n2_; have HO160 := n3_; have HO168 := n4_; have HO171 := n5_; have BK122 := n6_; have HB := n7_; clear n0_ n1_ n2_ n3_ n4_ n5_ n6_ n7_; (try clear hb); (try clear hb2); (try clear hk); (try clear hi); (try clear ho0); obtain ⟨Ao74, co74, eo74⟩ := Kd.R_slice HO171.out; subst eo74; obtain ⟨Ao75, co75, eo75⟩ := Kd.R_slice HO168.out; subst eo75; have p66 : 0 ≤ (x63_1 : Int) := of_decide_eq_true (by first | (with_reducible assumption) | assumption); have q66 : (x63_1 : Int) < ((x13_1.length : Int) : Int) := of_decide_eq_true (by first | (with_reducible assumption) | assumption); obtain ⟨ce66, hcl66, hM66, hcc66, hfr66⟩ := Kd.N_elem HO_13.out z77 (x63_1 : Int) p66 q66; obtain ⟨ua66_0, uc66_0, ua66_1, uc66_1, rfl, ul66_0, ge66_0, ul66_1, ge66_1⟩ := k77_openF hM66; have hx66_0 : w73.cell? ⟨go18, (x63_1 : Int).toNat * 2, none⟩ = some (.slice ua66_0 ((rd_T77 x13_1 x63_1).f0).length uc66_0) := hcc66 0 _ rfl; have hx66_1 : w73.cell? ⟨go18, (x63_1 : Int).toNat * 2 + 1, none⟩ = some (.slice ua66_1 ((rd_T77 x13_1 x63_1).f1).length uc66_1) := hcc66 1 _ rfl; have hf66_0 : w73.frozen? ⟨go18, (x63_1 : Int).toNat * 2, none⟩ = false := hfr66 0; have hf66_1 : w73.frozen? ⟨go18, (x63_1 : Int).toNat * 2 + 1, none⟩ = false := hfr66 1; clear hcl66 hcc66 hfr66 hM66; replace p66 := eq_true p66; replace q66 := eq_true q66; have n_ := Aside0.mk (Kd.N_mono (ok' := (fun k_ => some k_ ≠ (.slice Ao38 t123.length co38 : Value).ownBlock ∧ some k_ ≠ (v159 : Value).ownBlock ∧ some k_ ≠ (.slice Ao75 t166.length co75 : Value).ownBlock ∧ some k_ ≠ (.slice Ao74 t169.length co74 : Value).ownBlock ∧ k_ ≠ gb122)) HO_13.out (fun k_ hk => ⟨hk.1.1.1.1, ⟨hk.1.1.2, ⟨hk.1.2, ⟨hk.2, hk.1.1.1.2⟩⟩⟩⟩)); clear HO_13; have HO_13 := n_; clear n_; have HX76 := Aside0.mk (show Kd.N k77 77 w73 w.heap.size (fun k_ => some k_ ≠ (.slice Ao38 t123.length co38 : Value).ownBlock ∧ some k_ ≠ (v159 : Value).ownBlock ∧ k_ ≠ gb122) (.slice (some ⟨go18, 0, none⟩) x13_1.length co18) x13_1 from (by (with_reducible repeat (first | apply Kd.N_alloc | apply Kd.N_drewN | apply Kd.N_drew)); exact Kd.N_mono HO_13.out (fun _ hk => ⟨hk.1, ⟨hk.2.1, hk.2.2.2.2⟩⟩))); obtain ⟨ce76, hcl76, hM76, hcc76, hfr76⟩ := Kd.N_elem HX76.out z77 (x63_1 : Int) (of_decide_eq_true (by first | (with_reducible assumption) | assumption)) (by have h_ : (x63_1 : Int) < ((x13_1.length : Int) : Int) := of_decide_eq_true (by first | (with_reducible assumption) | assumption); first | exact h_ | (have e_ := (Kd.N_reads' HO_13.out).1; omega) | simpa using h_); obtain ⟨ua76_0, uc76_0, ua76_1, uc76_1, rfl, ul76_0, ge76_0, ul76_1, ge76_1⟩ := k77_openF hM76; have HP76 := Kd.N_seg HX76.out (x63_1 : Int) (of_decide_eq_true (by first | (with_reducible assumption) | assumption)) (by have h_ : (x63_1 : Int) < ((x13_1.length : Int) : Int) := of_decide_eq_true (by first | (with_reducible assumption) | assumption); first | exact h_ | (have e_ := (Kd.N_reads' HO_13.out).1; omega) | simpa using h_) (seg := [.slice Ao75 t166.length co75, .slice Ao74 t169.length co74]) (j := 0) hcl76 hcc76 (show 2 ≤ 2 from by decide) (x' := (⟨t166, t169⟩ : S77)) (k77_mkF _ _ (⟨t166, t169⟩ : S77) (Kd.R_reads' (Kd.R_mono (ok' := (fun k_ => ((fun k_ => some k_ ≠ (.slice Ao38 t123.length co38 : Value).ownBlock ∧ some k_ ≠ (v159 : Value).ownBlock ∧ k_ ≠ gb122)) k_ ∧ k_ ≠ go18)) (Kd.R_types (Kd.R_apart' (Kd.R_apart' (HO168.out) (Kd.R_typed HO_10.out) (by decide)) (Kd.N_typed HO_13.out) (by decide)) BK122.out (by decide)) (fun k_ hk => ⟨⟨hk.1.1.2, ⟨hk.1.1.1.1.2, hk.2⟩⟩, fun e_ => (hk.1.2) (by rw [e_]; rfl)⟩))).2.1 (Kd.R_F (Kd.R_mono (ok' := (fun k_ => ((fun k_ => some k_ ≠ (.slice Ao38 t123.length co38 : Value).ownBlock ∧ some k_ ≠ (v159 : Value).ownBlock ∧ k_ ≠ gb122)) k_ ∧ k_ ≠ go18)) (Kd.R_types (Kd.R_apart' (Kd.R_apart' (HO168.out) (Kd.R_typed HO_10.out) (by decide)) (Kd.N_typed HO_13.out) (by decide)) BK122.out (by decide)) (fun k_ hk => ⟨⟨hk.1.1.2, ⟨hk.1.1.1.1.2, hk.2⟩⟩, fun e_ => (hk.1.2) (by rw [e_]; rfl)⟩))) (Kd.R_reads' (Kd.R_mono (ok' := (fun k_ => ((fun k_ => some k_ ≠ (.slice Ao38 t123.length co38 : Value).ownBlock ∧ some k_ ≠ (v159 : Value).ownBlock ∧ k_ ≠ gb122)) k_ ∧ k_ ≠ go18)) (Kd.R_types (Kd.R_apart' (Kd.R_apart' (HO171.out) (Kd.R_typed HO_10.out) (by decide)) (Kd.N_typed HO_13.out) (by decide)) BK122.out (by decide)) (fun k_ hk => ⟨⟨hk.1.1.2, ⟨hk.1.1.1.1.2, hk.2⟩⟩, fun e_ => (hk.1.2) (by rw [e_]; rfl)⟩))).2.1 (Kd.R_F (Kd.R_mono (ok' := (fun k_ => ((fun k_ => some k_ ≠ (.slice Ao38 t123.length co38 : Value).ownBlock ∧ some k_ ≠ (v159 : Value).ownBlock ∧ k_ ≠ gb122)) k_ ∧ k_ ≠ go18)) (Kd.R_types (Kd.R_apart' (Kd.R_apart' (HO171.out) (Kd.R_typed HO_10.out) (by decide)) (Kd.N_typed HO_13.out) (by decide)) BK122.out (by decide)) (fun k_ hk => ⟨⟨hk.1.1.2, ⟨hk.1.1.1.1.2, hk.2⟩⟩, fun e_ => (hk.1.2) (by rw [e_]; rfl)⟩)))) (fun _ hk => hk); have hx76_0 := hcc76 0 _ rfl; (try simp only [show (k77).sz = 2 from rfl, Nat.mul_one, Nat.add_zero] at hx76_0); have hf76_0 := hfr76 0; (try simp only [show (k77).sz = 2 from rfl, Nat.mul_one, Nat.add_zero] at hf76_0); have hx76_1 := hcc76 1 _ rfl; (try simp only [show (k77).sz = 2 from rfl, Nat.mul_one, Nat.add_zero] at hx76_1); have hf76_1 := hfr76 1; (try simp only [show (k77).sz = 2 from rfl, Nat.mul_one, Nat.add_zero] at hf76_1); clear hcl76 hcc76 hfr76 hM76) | ((with_reducible refine gate_store (t := 77) (p := 131) rfl ?_); refine store_event (t := 77) (p := 131) (v := ?vo_w77) (w1 := ((w73.setCell ⟨go18, (x63_1 : Int).toNat * 2, none⟩ (.slice Ao75 t166.length co75)).setCell ⟨go18, (x63_1 : Int).toNat * 2 + 1, none⟩ (.slice Ao74 t169.length co74))) ?hg ?ho ?hn ?hr ?_; (case ho => rfl); (case hg => rfl); (case hn => rfl); (case hr => first | (go_simp; done) | (go_simp; rfl)); intro w77 hw; have hg : w73.grownBy w77 (some go18) := (by rw [hw]; exact HP76.2); have hp_ : Kd.N k77 77 w77 w.heap.size (fun k_ => some k_ ≠ (.slice Ao38 t123.length co38 : Value).ownBlock ∧ some k_ ≠ (v159 : Value).ownBlock ∧ k_ ≠ gb122) (.slice (some ⟨go18, 0, none⟩) x13_1.length co18) y172 := (by rw [hw, Ny172.out]; exact HP76.1); clear HP76; have n0_ := Aside0.mk (Kd.R_over' (v := (.slice (some ⟨go18, 0, none⟩) x13_1.length co18)) (zr HO_10.out) (Kd.N_typed HO_13.out) (by decide) hg); have n1_ := Aside0.mk (hp_); have n2_ := Aside0.mk (Kd.V_afterv (v := (.slice (some ⟨go18, 0, none⟩) x13_1.length co18)) (v1 := (.slice (some ⟨go18, 0, none⟩) x13_1.length co18)) (ok := (fun k_ => some k_ ≠ (v159 : Value).ownBlock ∧ some k_ ≠ (.slice Ao75 t166.length co75 : Value).ownBlock ∧ some k_ ≠ (.slice Ao74 t169.length co74 : Value).ownBlock ∧ k_ ≠ gb122)) (by (with_reducible repeat (first | apply Kd.V_alloc | apply Kd.V_drewN | apply Kd.V_drew)); exact Kd.V_mono HO_20.out (fun _ hk => ⟨⟨hk.1.1.2, ⟨hk.1.2, ⟨hk.2, hk.1.1.1.2⟩⟩⟩, hk.1.1.1.1⟩)) hg (.inl rfl)); have n3_ := Aside0.mk (blk_grown (g := gb122) (o := .cells #[.slice none 0 0, .slice none 0 0] 44 (0, 0)) (zk BK122.out) hg (Kd.N_ne HO_13.out BK122.out (by decide))); have n4_ := Aside0.mk (Kd.R_over' (v := (.slice (some ⟨go18, 0, none⟩) x13_1.length co18)) (zr HO160.out) (Kd.N_typed HO_13.out) (by decide) hg); have n5_ := Aside0.mk ((by rw [hw]; exact below_set (below_set (HB.out) GB18.out) GB18.out : Below w.heap.size w w77)); clear HO_10; clear HO_13; clear HO_20; clear BK122; clear HO160; clear HB; clear HO168; clear HO171; have HO_10 := n0_; have HO_13 := n1_; have HO_20 := n2_; have BK122 := n3_; have HO160 := n4_; have HB := n5_; clear n0_ n1_ n2_ n3_ n4_ n5_; clear hg hw hp_))
                      (try simp only [← hl13_1])
                      go_roundg kj35
                      case measure => have := HK1.out; have := HJ35.out; omega
                      case rel => exact ⟨(y172), (wrap64 (x15_1 + t147)), (x16_1), (wrap64 (x63_1 + 1)), (by first | rfl | (simp; done) | (simp [*]; done)), (by first | rfl | (simp; done) | (simp [*]; done)), (by first | rfl | (simp; done) | (simp [*]; done)), H', ⟨by have := HK1.out; have := HJ35.out; omega⟩, ⟨by (try simp only [hl13_1]); (with_reducible repeat (first | apply Kd.R_alloc | apply Kd.R_drewN | apply Kd.R_drew)); exact HO_10.out⟩, ⟨by (try simp only [hl13_1]); (with_reducible repeat (first | apply Kd.N_alloc | apply Kd.N_drewN | apply Kd.N_drew)); exact Kd.N_mono HO_13.out (fun _ hk => ⟨hk.1, hk.2.2⟩)⟩, ⟨by (try simp only [hl13_1]); (with_reducible repeat (first | refine blk_drewN ?_ _ | refine blk_drew ?_ | refine blk_alloc ?_ _)); exact BK122.out⟩, ⟨by repeat (first | (with_reducible first | exact HB.out | apply below_alloc | apply pw_below_drewN | apply below_drew1 | refine below_set ?_ GE122.out) | exact HB.out)⟩⟩
                     ·rw [if_neg c65] at H
                      exact absurd H (by simp)
                    ·rw [if_neg c64] at H
                     exact absurd H (by simp)
                  ·rw [if_neg c45] at H
                   exact absurd H (by simp)
                 ·rw [if_neg c43] at H
                  exact absurd H (by simp)
                ·rw [if_neg c42] at H
                 exact absurd H (by simp)
             ·rw [if_neg c35] at H
              exact absurd H (by simp)
            ·rw [if_neg c34] at H
             exact absurd H (by simp)
           ·rw [if_neg c33] at H
            exact absurd H (by simp)
          ·rw [if_neg c31] at H
           have c31b0 : decide (x63_1 < (l3.length : Int)) = false := decide_eq_false c31
           clear c31
           replace H := Option.bind_eq_some_iff.mp H
           obtain ⟨⟨t140, t143, t146⟩, A780, H⟩ := H
           replace H : (some (t140, t143, t146)) = some (r1, r2, r3) := H
           have A78 := Aside0.mk A780
           clear A780
           simp only [Option.some.injEq, Prod.mk.injEq] at H
           obtain ⟨rfl, rfl, rfl⟩ := H
           go_wp2_with (first | ((with_reducible refine gate_callee (f := 61) rfl ?_); refine goesL_ (some 141) rfl rfl Tryd.func61 (by kernel_rfl) rfl #[.slice (some ⟨go18, 0, none⟩) x13_1.length co18] rfl zm ?_; (with_reducible refine (clash_first.calls k1 _ _ x13_1 t140 t143 t146 _ ?side3 ?side1 ?side2 A78.out).mono ?_); (case side1 => exact zc (Kd.N_reads' HO_13.out).2.2); (case side2 => exact (Kd.N_reads' HO_13.out).2.1); (case side3 => exact gw_step hG_ (zb1 HB.out GE122.out)); rintro e w79 ⟨v141, v144, rfl, ho0, ho1, hb⟩; refine ⟨_, rfl, ?_⟩; have n0_ := zR HO_10 hb; have n1_ := Aside0.mk (Kd.N_mono (Kd.N_told (Kd.N_told (Kd.N_old (by (with_reducible repeat (first | apply Kd.N_alloc | apply Kd.N_drewN | apply Kd.N_drew)); exact HO_13.out) hb) (Kd.R_base ho0)) (Kd.R_base ho1)) (fun _ h_ => h_.1)); have n2_ := zL1 ho0 HB GE122; have n3_ := zL1 ho1 HB GE122; have n4_ := zK BK122 hb; have n5_ := zS1 HB GE122 hb; clear HO_10; clear HO_13; clear BK122; clear HB; have HO_10 := n0_; have HO_13 := n1_; have HO142 := n2_; have HO145 := n3_; have BK122 := n4_; have HB := n5_; clear n0_ n1_ n2_ n3_ n4_ n5_; (try clear hb); (try clear hb2); (try clear hk); (try clear hi); (try clear ho0); (try clear ho1); obtain ⟨Ao80, co80, eo80⟩ := Kd.R_slice HO142.out; subst eo80; have hcz81_0 : w79.cell? ⟨gb122, 0, none⟩ = some (.slice none 0 0) := (blk_cell BK122.out 0).trans rfl; have hcz81_1 : w79.cell? ⟨gb122, 1, none⟩ = some (.slice none 0 0) := (blk_cell BK122.out 1).trans rfl; have hfz81_0 := blk_frozen BK122.out 0; have hfz81_1 := blk_frozen BK122.out 1; obtain ⟨Ao82, co82, eo82⟩ := Kd.R_slice HO145.out; subst eo82))
           refine bodyPost_ret (results_ct rfl _ _ gb122 44 #[.slice Ao80 t140.length co80, .slice Ao82 t143.length co82] (0, 0) _ rfl (by (with_reducible repeat (first | refine blk_drewN ?_ _ | refine blk_drew ?_ | refine blk_alloc ?_ _)); refine blk_put (cs := #[.slice Ao80 t140.length co80, .slice none 0 0]) ?_ 1 _ rfl; (with_reducible repeat (first | refine blk_drewN ?_ _ | refine blk_drew ?_ | refine blk_alloc ?_ _)); refine blk_put (cs := #[.slice none 0 0, .slice none 0 0]) ?_ 0 _ rfl; (with_reducible repeat (first | refine blk_drewN ?_ _ | refine blk_drew ?_ | refine blk_alloc ?_ _)); exact BK122.out) Tryd.underlying44 rfl (by kernel_rfl)) rfl ?_
           exact ⟨_, _, by first | rfl | (simp [errW_none, errW_some] <;> rfl) | (simp only [← hji9]; first | rfl | (simp [errW_none, errW_some] <;> rfl)) | (simp [*, errW_none, errW_some] <;> rfl), by (with_reducible repeat (first | apply Kd.R_alloc | apply Kd.R_drewN | apply Kd.R_drew)); exact Kd.R_mono (Kd.R_far (p := ⟨gb122, 1, none⟩) (Kd.R_far (p := ⟨gb122, 0, none⟩) (Kd.R_types HO142.out BK122.out (by decide)) (fun _ hk => hk.2) (.slice Ao80 t140.length co80)) (fun _ hk => hk.2) (.slice Ao82 t143.length co82)) (fun _ hk => hk.1), by (with_reducible repeat (first | apply Kd.R_alloc | apply Kd.R_drewN | apply Kd.R_drew)); exact Kd.R_mono (Kd.R_far (p := ⟨gb122, 1, none⟩) (Kd.R_far (p := ⟨gb122, 0, none⟩) (Kd.R_types HO145.out BK122.out (by decide)) (fun _ hk => hk.2) (.slice Ao80 t140.length co80)) (fun _ hk => hk.2) (.slice Ao82 t143.length co82)) (fun _ hk => hk.1), by repeat (first | (with_reducible first | exact HB.out | apply below_alloc | apply pw_below_drewN | apply below_drew1 | refine below_set ?_ GE122.out) | exact HB.out)⟩
       ·rw [if_neg c17] at H
        exact absurd H (by simp)
      ·rw [if_neg c16] at H
       exact absurd H (by simp)
     ·rw [if_neg c14] at H
      exact absurd H (by simp)
    ·rw [if_neg c13] at H
     exact absurd H (by simp)
   ·rw [if_neg c11] at H
    exact absurd H (by simp)
  ·rw [if_neg c10] at H
   exact absurd H (by simp)
 ·rw [if_neg c8] at H
  have c8b0 : (t128 == 0) = false := beq_eq_false_iff_ne.mpr c8
  have c8b1 : (t128 != 0) = true := bne_iff_ne.mpr c8
  simp only [Option.some.injEq, Prod.mk.injEq] at H
  obtain ⟨rfl, rfl, rfl⟩ := H
  go_enter Tryd.func27, Tryd.ntmps27
  go_wp2_with (first | ((with_reducible refine gate_dst (N := 8) rfl ?_); refine box_event ?hg (N := 8) ?hd (cs := #[.slice none 0 0, .slice none 0 0]) (t := 44) ?hr ?_; (case hd => rfl); (case hg => rfl); (case hr => first | (go_simp; done) | (go_simp; rfl)); intro gb122 hg w83 hbox hb; have n0_ := zS HB hb; have n1_ := Aside0.mk (hbox); have n2_ := Aside0.mk ((by rw [hg]; exact (below_size (zb HB.out)) : w.heap.size ≤ gb122)); have n3_ := Aside0.mk ((by rw [hg]; exact (below_size (zb HB.out)) : w.heap.size ≤ gb122)); clear HB; have HB := n0_; have BK122 := n1_; have GW122 := n2_; have GE122 := n3_; clear n0_ n1_ n2_ n3_; clear hb hbox hg) | ((with_reducible refine gate_callee (f := 46) rfl ?_); refine goesL_ (some 28) rfl rfl Tryd.func46 (by kernel_rfl) rfl #[.slice A0 l0.length c0] rfl zm ?_; (with_reducible refine (tree_Leaves.calls k _ _ l0 t123 _ ?side3 ?side1 ?side2 A5.out).mono ?_); (case side1 => exact zc (Kd.C_below HR0.out HB.out)); (case side2 => exact HC0.out); (case side3 => exact gw_step hG_ (zb1 HB.out GE122.out)); rintro e w84 ⟨v124, rfl, ho0, hb⟩; refine ⟨_, rfl, ?_⟩; have n0_ := zL1 ho0 HB GE122; have n1_ := zK BK122 hb; have n2_ := zS1 HB GE122 hb; clear BK122; clear HB; have HO125 := n0_; have BK122 := n1_; have HB := n2_; clear n0_ n1_ n2_; (try clear hb); (try clear hb2); (try clear hk); (try clear hi); (try clear ho0)) | ((with_reducible refine gate_callee (f := 57) rfl ?_); refine goesL_ (some 31) rfl rfl Tryd.func57 (by kernel_rfl) rfl #[.slice A2 l2.length c2] rfl zm ?_; (with_reducible refine (seal_Leaf.calls k _ _ l2 t126 _ ?side3 ?side1 ?side2 A6.out).mono ?_); (case side1 => exact zc (Kd.C_below HR2.out HB.out)); (case side2 => exact HC2.out); (case side3 => exact gw_step hG_ (zb1 HB.out GE122.out)); rintro e w85 ⟨rfl, hb⟩; refine ⟨_, rfl, ?_⟩; have n0_ := zR HO125 hb; have n1_ := zK BK122 hb; have n2_ := zS1 HB GE122 hb; clear HO125; clear BK122; clear HB; have HO125 := n0_; have BK122 := n1_; have HB := n2_; clear n0_ n1_ n2_; (try clear hb); (try clear hb2); (try clear hk); (try clear hi)) | ((with_reducible refine gate_callee (f := 32) rfl ?_); refine goesL_ (some 36) rfl rfl Tryd.func32 (by kernel_rfl) rfl #[.string t126, .int .i64 a1, .int .i64 (l0.length : Int), .slice A3 l3.length c3] rfl zm ?_; (with_reducible refine (tree_Climb.calls k t126 a1 (l0.length : Int) _ _ l3 t127 t128 _ ?side3 ?side1 ?side2 A7.out).mono ?_); (case side1 => exact zc (Kd.C_below HR3.out HB.out)); (case side2 => exact HC3.out); (case side3 => exact gw_step hG_ (zb1 HB.out GE122.out)); rintro e w86 ⟨rfl, hb⟩; refine ⟨_, rfl, ?_⟩; have n0_ := zR HO125 hb; have n1_ := zK BK122 hb; have n2_ := zS1 HB GE122 hb; clear HO125; clear BK122; clear HB; have HO125 := n0_; have BK122 := n1_; have HB := n2_; clear n0_ n1_ n2_; (try clear hb); (try clear hb2); (try clear hk); (try clear hi); have hcz87_0 : w86.cell? ⟨gb122, 0, none⟩ = some (.slice none 0 0) := (blk_cell BK122.out 0).trans rfl; have hcz87_1 : w86.cell? ⟨gb122, 1, none⟩ = some (.slice none 0 0) := (blk_cell BK122.out 1).trans rfl; have hfz87_0 := blk_frozen BK122.out 0; have hfz87_1 := blk_frozen BK122.out 1))
  refine bodyPost_ret (results_ct rfl _ _ gb122 44 #[.slice none 0 0, .slice none 0 0] (0, 0) _ rfl (by (with_reducible repeat (first | refine blk_drewN ?_ _ | refine blk_drew ?_ | refine blk_alloc ?_ _)); refine blk_put (cs := #[.slice none 0 0, .slice none 0 0]) ?_ 1 _ rfl; (with_reducible repeat (first | refine blk_drewN ?_ _ | refine blk_drew ?_ | refine blk_alloc ?_ _)); refine blk_put (cs := #[.slice none 0 0, .slice none 0 0]) ?_ 0 _ rfl; (with_reducible repeat (first | refine blk_drewN ?_ _ | refine blk_drew ?_ | refine blk_alloc ?_ _)); exact BK122.out) Tryd.underlying44 rfl (by kernel_rfl)) rfl ?_
  exact ⟨_, _, by first | rfl | (simp [errW_none, errW_some] <;> rfl) | (simp [*, errW_none, errW_some] <;> rfl), by first | exact Kd.R_nil _ _ _ _ _ | exact Kd.N_nil _ _ _ _ _ | exact Kd.V_nil _ _ _ _ _ | exact Kd.Q_nil _ _ _ _ _ | exact Kd.S_nil _ _ _ _ _, by first | exact Kd.R_nil _ _ _ _ _ | exact Kd.N_nil _ _ _ _ _ | exact Kd.V_nil _ _ _ _ _ | exact Kd.Q_nil _ _ _ _ _ | exact Kd.S_nil _ _ _ _ _, by repeat (first | (with_reducible first | exact HB.out | apply below_alloc | apply pw_below_drewN | apply below_drew1 | refine below_set ?_ GE122.out) | exact HB.out)⟩
end Go.Proofs.YtpmefpdafkbphaaDoor.PQ

import Derived.Test.YtpmefpdafkbphaaDoorZrHZ
import Derived.Test.YtpmefpdafkbphaaDoorZrHBulk
import Derived.Test.YtpmefpdafkbphaaDoorZrPQ0
-- PRINTED by print.py (a twelfth state) out of the translation. Not trusted: Lean checks it.
namespace Go.Proofs.YtpmefpdafkbphaaDoor.PQ
open Go.Proofs.YtpmefpdafkbphaaDoor.HZ Go.RowKit Go.Proofs.YtpmefpdafkbphaaDoor Go.Proofs.YtpmefpdafkbphaaDoor.HSha Go.Proofs.YtpmefpdafkbphaaDoor.PS Go.Proofs.YtpmefpdafkbphaaDoor.PR Go.Proofs.YtpmefpdafkbphaaDoor.PT Go.Proofs.YtpmefpdafkbphaaDoor.PB Go.Proofs.YtpmefpdafkbphaaDoor.HNode Go.Proofs.YtpmefpdafkbphaaDoor.PC Go.Proofs.YtpmefpdafkbphaaDoor.HBytes8 Go.Proofs.YtpmefpdafkbphaaDoorW.PrintWords Go.Proofs.YtpmefpdafkbphaaDoorW.PrintLast Go.Proofs.YtpmefpdafkbphaaDoorW.PrintMore
attribute [local go_sem] max2_int min2_int max_two min_two max_three min_three max_four min_four   -- for this text's walks alone
set_option linter.unusedVariables false
set_option linter.unusedSimpArgs false
/-! ### clash_Two: function 37 -/
mutual
def clash_Two.j0 : Nat → List (List Int) → List (List Int) → Bool → Option (List Int × List Int × Bool)
 | 0, _, _, _ => none
 | k + 1, x0, x1, x20 => if x20 = true then (some (([] : List Int), ([] : List Int), false)) else (if (x0.length : Int) = 1 then (if 0 < (x0.length : Int) then ((seal_LeafBytes.f k (rd_L2 x0 0)).bind fun t175 => (if 0 < (x1.length : Int) then ((seal_LeafBytes.f k (rd_L2 x1 0)).bind fun t179 => ((clash_first.f k (([(⟨t175, t179⟩ : S77)] : List (S77)))).bind fun bt185 => (some (bt185.1, bt185.2.1, bt185.2.2)))) else (none))) else (none)) else ((tree_Leaves.f k x0).bind fun t192 => ((clash_halves.f k t192).bind fun t195 => ((tree_Leaves.f k x1).bind fun t198 => ((clash_halves.f k t198).bind fun t201 => ((clash_first.f k (([(⟨t195, t201⟩ : S77)] : List (S77)))).bind fun bt207 => (if bt207.2.2 = true then (some (bt207.1, bt207.2.1, true)) else ((tree_Split.f k (x0.length : Int)).bind fun t215 => (if 0 ≤ t215 then (if t215 ≤ (x0.length : Int) then (if t215 ≤ (x1.length : Int) then ((clash_Two.f k (x0.take (t215 : Int).toNat) (x1.take (t215 : Int).toNat)).bind fun bt224 => (if bt224.2.2 = true then (some (bt224.1, bt224.2.1, true)) else ((clash_Two.f k (x0.drop (t215 : Int).toNat) (x1.drop (t215 : Int).toNat)).bind fun bt240 => (some (bt240.1, bt240.2.1, bt240.2.2))))) else (none)) else (none)) else (none))))))))))
def clash_Two.f : Nat → List (List Int) → List (List Int) → Option (List Int × List Int × Bool)
 | 0, _, _ => none
 | k + 1, l0, l1 => if (l0.length : Int) = (l1.length : Int) then (clash_Two.j0 k l0 l1 ((l0.length : Int) == 0)) else (clash_Two.j0 k l0 l1 true)
end
theorem clash_Two.mono_l : ∀ k, (∀ y0 y1, LeO (clash_Two.f k y0 y1) (clash_Two.f (k + 1) y0 y1)) ∧ (∀ y0 y1 y2, LeO (clash_Two.j0 k y0 y1 y2) (clash_Two.j0 (k + 1) y0 y1 y2))
 | 0 => ⟨fun _ _ r h => by simp [clash_Two.f] at h, fun _ _ _ r h => by simp [clash_Two.j0] at h⟩
 | k + 1 => by
  obtain ⟨ih0, ih1⟩ := clash_Two.mono_l k
  refine ⟨?_, ?_⟩
  ·intro y0 y1
   unfold clash_Two.f
   repeat' first
   | (with_reducible exact ih0 _ _)
   | (with_reducible exact ih1 _ _ _)
   | (with_reducible exact clash_first.mono _ _)
   | (with_reducible exact clash_halves.mono _ _)
   | (with_reducible exact seal_LeafBytes.mono _ _)
   | (with_reducible exact tree_Leaves.mono _ _)
   | (with_reducible exact tree_Split.mono _ _)
   | (with_reducible exact LeO.refl _)
   | (with_reducible exact LeO.none _)
   | (with_reducible refine LeO.ite ?_ ?_)
   | (with_reducible refine LeO.bind ?_ (fun _ => ?_))
  ·intro y0 y1 y2
   unfold clash_Two.j0
   repeat' first
   | (with_reducible exact ih0 _ _)
   | (with_reducible exact ih1 _ _ _)
   | (with_reducible exact clash_first.mono _ _)
   | (with_reducible exact clash_halves.mono _ _)
   | (with_reducible exact seal_LeafBytes.mono _ _)
   | (with_reducible exact tree_Leaves.mono _ _)
   | (with_reducible exact tree_Split.mono _ _)
   | (with_reducible exact LeO.refl _)
   | (with_reducible exact LeO.none _)
   | (with_reducible refine LeO.ite ?_ ?_)
   | (with_reducible refine LeO.bind ?_ (fun _ => ?_))
theorem clash_Two.mono : ∀ a0 a1 k, LeO (clash_Two.f k a0 a1) (clash_Two.f (k + 1) a0 a1) := by
 intro a0 a1 k
 obtain ⟨ih0, ih1⟩ := clash_Two.mono_l k
 exact ih0 a0 a1
def clash_Two.T4 : Bool × List (List Nat × List Nat) := (true, [([], []), ([0], [0]), ([1], [1]), ([2], [2]), ([], []), ([4], [4]), ([5], [5]), ([6, 3], [6]), ([3, 7], [3, 7]), ([8], [8]), ([9, 7], [9]), ([10], [10]), ([10], [10]), ([11, 10, 0, 1, 2, 3, 4, 5, 6, 7, 8, 9, 10, 11, 12], [11]), ([12, 13, 0, 1, 2, 3, 4, 5, 6, 7, 8, 9, 10, 11, 12, 13], [12])])
def clash_Two.B4 : List Nat := [0, 1, 3, 7, 0, 16, 48, 127, 255, 511, 1023, 2047, 2047, 8191, 16383]
theorem clash_Two.tab4 : rtab .any (opsOf Tryd.f37 4) = clash_Two.T4 := by kernel_rfl
theorem clash_Two.bits4 : waitsOk clash_Two.T4.2 clash_Two.B4 = true := by kernel_rfl
def clash_Two.T9 : Bool × List (List Nat × List Nat) := (true, [([], []), ([], []), ([0, 1], [0, 1]), ([], []), ([], []), ([3, 4], [3, 4]), ([2, 5], [2, 5]), ([6], [6]), ([7], [7]), ([7], [7]), ([], []), ([10, 8, 6, 0, 1, 2, 3, 4, 5, 6, 7, 8, 10], [8, 10]), ([9, 11, 0, 1, 2, 3, 4, 5, 6, 7, 8, 9, 10, 11], [9])])
def clash_Two.B9 : List Nat := [0, 0, 3, 0, 0, 24, 63, 127, 255, 255, 0, 1535, 4095]
theorem clash_Two.tab9 : rtab .any (opsOf Tryd.f37 9) = clash_Two.T9 := by kernel_rfl
theorem clash_Two.bits9 : waitsOk clash_Two.T9.2 clash_Two.B9 = true := by kernel_rfl
def clash_Two.T12 : Bool × List (List Nat × List Nat) := (true, [([], []), ([], []), ([0, 1], [0, 1]), ([], []), ([], []), ([3, 4], [3, 4]), ([2, 5], [2, 5]), ([6], [6]), ([6], [6]), ([7, 6, 0, 1, 2, 3, 4, 5, 6, 7, 8], [7]), ([8, 9, 0, 1, 2, 3, 4, 5, 6, 7, 8, 9], [8])])
def clash_Two.B12 : List Nat := [0, 0, 3, 0, 0, 24, 63, 127, 127, 511, 1023]
theorem clash_Two.tab12 : rtab .any (opsOf Tryd.f37 12) = clash_Two.T12 := by kernel_rfl
theorem clash_Two.bits12 : waitsOk clash_Two.T12.2 clash_Two.B12 = true := by kernel_rfl
set_option maxHeartbeats 8000000 in
set_option maxRecDepth 100000 in
theorem clash_Two.calls (k : Nat) : ∀ (A0 : Option Addr) (c0 : Nat) (l0 : List (List Int)) (A1 : Option Addr) (c1 : Nat) (l1 : List (List Int)) (r1 : List Int) (r2 : List Int) (r3 : Bool) (w : World) (hG_ : Aside0 (GW w)) (hr0 : Kd.C (Kd.slice 5 (Kd.int .u8)) w A0 l0.length l0) (hc0 : l0.length ≤ c0) (hr1 : Kd.C (Kd.slice 5 (Kd.int .u8)) w A1 l1.length l1) (hc1 : l1.length ≤ c1) (h : clash_Two.f k l0 l1 = some (r1, r2, r3)),
  Calls Tryd.prog 37 #[.slice A0 l0.length c0, .slice A1 l1.length c1] w fun e w' => ∃ v0_ v1_ : Value, e = .returned (.tuple #[.agg #[v0_, v1_], .bool r3]) ∧ Kd.R (Kd.int .u8) 5 w' w.heap.size (fun k_ => some k_ ≠ (v1_ : Value).ownBlock) v0_ r1 ∧ Kd.R (Kd.int .u8) 5 w' w.heap.size (fun k_ => some k_ ≠ (v0_ : Value).ownBlock) v1_ r2 ∧ Below w.heap.size w w' := by
 induction k using Nat.strongRecOn with
 | _ k ih =>
 intro A0 c0 l0 A1 c1 l1 r1 r2 r3 w hG_ hr0 hc0 hr1 hc1 h
 cases k with
 | zero => exact absurd h (by simp [clash_Two.f])
 | succ k =>
 simp only [clash_Two.f] at h
 have hu44 := Tryd.underlying44
 have hu77 := Tryd.underlying77
 have HR0 := Aside0.mk hr0
 have HC0 := Aside0.mk hc0
 clear hr0 hc0
 have HR1 := Aside0.mk hr1
 have HC1 := Aside0.mk hc1
 clear hr1 hc1
 have HB := Aside0.mk (Below.refl w.heap.size w)
 have H : (if (l0.length : Int) = (l1.length : Int) then (clash_Two.j0 k l0 l1 ((l0.length : Int) == 0)) else (clash_Two.j0 k l0 l1 true)) = some (r1, r2, r3) := h
 clear h
 have HC3 := Aside0.mk H
 clear H
 go_enter Tryd.func37, Tryd.ntmps37
 go_upto_region 1 with (first | ((with_reducible refine gate_dst (N := 4) rfl ?_); (try (refine gate_guard (by rfl) ?_; dsimp only)); refine box_event ?hg (N := 4) ?hd (cs := #[.slice none 0 0, .slice none 0 0]) (t := 44) ?hr ?_; (case hd => rfl); (case hg => rfl); (case hr => first | (go_simp; done) | (go_simp; rfl)); intro gb173 hg w4 hbox hb; have n0_ := zS HB hb; have n1_ := Aside0.mk (hbox); have n2_ := Aside0.mk ((by rw [hg]; exact (below_size (zb HB.out)) : w.heap.size ≤ gb173)); have n3_ := Aside0.mk ((by rw [hg]; exact (below_size (zb HB.out)) : w.heap.size ≤ gb173)); clear HB; have HB := n0_; have BK173 := n1_; have GW173 := n2_; have GE173 := n3_; clear n0_ n1_ n2_ n3_; clear hb hbox hg))
 (try simp only [Act.put, List.setIfInBounds_toArray, List.set_cons_zero, List.set_cons_succ])
 go_cut [20] (fun v20 wc => ∃ (kq : Nat) (x20_2 : Bool), v20 = .bool x20_2 ∧ Aside0 (clash_Two.j0 kq l0 l1 x20_2 = some (r1, r2, r3)) ∧ Aside0 (kq ≤ k) ∧ Aside0 (wc.heap[gb173]? = some (.cells #[(.slice none 0 0), (.slice none 0 0)] 44 (0, 0))) ∧ Aside0 (Below w.heap.size w wc))
 case first =>
  have H := HC3.out
  clear HC3
  by_cases c5 : (l0.length : Int) = (l1.length : Int)
  ·rw [if_pos c5] at H
   have c5b0 : ((l0.length : Int) == (l1.length : Int)) = true := beq_iff_eq.mpr c5
   have c5b1 : ((l0.length : Int) != (l1.length : Int)) = false := bne_eq_false_iff_eq.mpr c5
   have c5b2 : (l0.length == l1.length) = true := by first | simpa using c5 | (simp at c5 ⊢; omega)
   clear c5
   (first | rw [c5b0] | (simp only [i64_w, i32_w]; rw [c5b0]) | skip)
   have H' := Aside0.mk H
   clear H
   go_wp2
   go_meet
   case rel => exact ⟨_, (((l0.length : Int) == 0)), (by first | rfl | (simp; done) | (simp [*]; done)), H', ⟨by first | omega | exact Nat.le_refl _⟩, ⟨by (with_reducible repeat (first | refine blk_drewN ?_ _ | refine blk_drew ?_ | refine blk_alloc ?_ _)); exact BK173.out⟩, ⟨by repeat (first | (with_reducible first | exact HB.out | apply below_alloc | apply pw_below_drewN | apply below_drew1 | refine below_set ?_ GE173.out) | exact HB.out)⟩⟩
  ·rw [if_neg c5] at H
   have c5b0 : ((l0.length : Int) == (l1.length : Int)) = false := beq_eq_false_iff_ne.mpr c5
   have c5b1 : ((l0.length : Int) != (l1.length : Int)) = true := bne_iff_ne.mpr c5
   have c5b2 : (l0.length == l1.length) = false := by first | simpa using c5 | (simp at c5 ⊢; omega)
   (first | rw [c5b0] | (simp only [i64_w, i32_w]; rw [c5b0]) | skip)
   have H' := Aside0.mk H
   clear H
   go_wp2
   go_meet
   case rel => exact ⟨_, (true), (by first | rfl | (simp; done) | (simp [*]; done)), H', ⟨by first | omega | exact Nat.le_refl _⟩, ⟨by (with_reducible repeat (first | refine blk_drewN ?_ _ | refine blk_drew ?_ | refine blk_alloc ?_ _)); exact BK173.out⟩, ⟨by repeat (first | (with_reducible first | exact HB.out | apply below_alloc | apply pw_below_drewN | apply below_drew1 | refine below_set ?_ GE173.out) | exact HB.out)⟩⟩
 case rest =>
  clear HC3
  try clear c1
  try clear p2
  try clear c3
  try clear c5
  try clear c5b0
  try clear c5b1
  try clear c5b2
  obtain ⟨kq, x20_2, rfl, HA, HJ2, BK173, HB⟩ := hcut
  cases kq with
  | zero => exact absurd HA.out (by simp [clash_Two.j0])
  | succ kj2 =>
   have H := HA.out
   clear HA
   simp only [clash_Two.j0] at H
   by_cases c6 : x20_2 = true
   ·subst c6
    have H1 : (some (([] : List Int), ([] : List Int), false)) = some (r1, r2, r3) := by rw [if_pos rfl] at H; exact H
    clear H
    have H := H1
    clear H1
    simp only [Option.some.injEq, Prod.mk.injEq] at H
    obtain ⟨rfl, rfl, rfl⟩ := H
    have hcz7_0 : wc.cell? ⟨gb173, 0, none⟩ = some (.slice none 0 0) := (blk_cell BK173.out 0).trans rfl
    have hcz7_1 : wc.cell? ⟨gb173, 1, none⟩ = some (.slice none 0 0) := (blk_cell BK173.out 1).trans rfl
    have hfz7_0 := blk_frozen BK173.out 0
    have hfz7_1 := blk_frozen BK173.out 1
    go_wp2
    refine bodyPost_ret (results_ct rfl _ _ gb173 44 #[.slice none 0 0, .slice none 0 0] (0, 0) _ rfl (by (with_reducible repeat (first | refine blk_drewN ?_ _ | refine blk_drew ?_ | refine blk_alloc ?_ _)); refine blk_put (cs := #[.slice none 0 0, .slice none 0 0]) ?_ 1 _ rfl; (with_reducible repeat (first | refine blk_drewN ?_ _ | refine blk_drew ?_ | refine blk_alloc ?_ _)); refine blk_put (cs := #[.slice none 0 0, .slice none 0 0]) ?_ 0 _ rfl; (with_reducible repeat (first | refine blk_drewN ?_ _ | refine blk_drew ?_ | refine blk_alloc ?_ _)); exact BK173.out) Tryd.underlying44 rfl (by kernel_rfl)) rfl ?_
    exact ⟨_, _, by first | rfl | (simp [errW_none, errW_some] <;> rfl) | (simp [*, errW_none, errW_some] <;> rfl), by first | exact Kd.R_nil _ _ _ _ _ | exact Kd.N_nil _ _ _ _ _ | exact Kd.V_nil _ _ _ _ _ | exact Kd.Q_nil _ _ _ _ _ | exact Kd.S_nil _ _ _ _ _, by first | exact Kd.R_nil _ _ _ _ _ | exact Kd.N_nil _ _ _ _ _ | exact Kd.V_nil _ _ _ _ _ | exact Kd.Q_nil _ _ _ _ _ | exact Kd.S_nil _ _ _ _ _, by repeat (first | (with_reducible first | exact HB.out | apply below_alloc | apply pw_below_drewN | apply below_drew1 | refine below_set ?_ GE173.out) | exact HB.out)⟩
   ·replace c6 := Bool.eq_false_iff.mpr c6
    subst c6
    have H1 : (if (l0.length : Int) = 1 then (if 0 < (l0.length : Int) then ((seal_LeafBytes.f kj2 (rd_L2 l0 0)).bind fun t175 => (if 0 < (l1.length : Int) then ((seal_LeafBytes.f kj2 (rd_L2 l1 0)).bind fun t179 => ((clash_first.f kj2 (([(⟨t175, t179⟩ : S77)] : List (S77)))).bind fun bt185 => (some (bt185.1, bt185.2.1, bt185.2.2)))) else (none))) else (none)) else ((tree_Leaves.f kj2 l0).bind fun t192 => ((clash_halves.f kj2 t192).bind fun t195 => ((tree_Leaves.f kj2 l1).bind fun t198 => ((clash_halves.f kj2 t198).bind fun t201 => ((clash_first.f kj2 (([(⟨t195, t201⟩ : S77)] : List (S77)))).bind fun bt207 => (if bt207.2.2 = true then (some (bt207.1, bt207.2.1, true)) else ((tree_Split.f kj2 (l0.length : Int)).bind fun t215 => (if 0 ≤ t215 then (if t215 ≤ (l0.length : Int) then (if t215 ≤ (l1.length : Int) then ((clash_Two.f kj2 (l0.take (t215 : Int).toNat) (l1.take (t215 : Int).toNat)).bind fun bt224 => (if bt224.2.2 = true then (some (bt224.1, bt224.2.1, true)) else ((clash_Two.f kj2 (l0.drop (t215 : Int).toNat) (l1.drop (t215 : Int).toNat)).bind fun bt240 => (some (bt240.1, bt240.2.1, bt240.2.2))))) else (none)) else (none)) else (none)))))))))) = some (r1, r2, r3) := by rw [if_neg (show ¬ (false = true) by decide)] at H; exact H
    clear H
    have H := H1
    clear H1
    by_cases c8 : (l0.length : Int) = 1
    ·rw [if_pos c8] at H
     have c8b0 : ((l0.length : Int) == 1) = true := beq_iff_eq.mpr c8
     have c8b1 : ((l0.length : Int) != 1) = false := bne_eq_false_iff_eq.mpr c8
     clear c8
     by_cases c9 : 0 < (l0.length : Int)
     ·rw [if_pos c9] at H
      have c9b0 : decide (0 < (l0.length : Int)) = true := decide_eq_true c9
      have c9b1 : decide (0 < l0.length) = true := decide_eq_true (by omega)
      clear c9
      replace H := Option.bind_eq_some_iff.mp H
      obtain ⟨t175, A100, H⟩ := H
      replace H : (if 0 < (l1.length : Int) then ((seal_LeafBytes.f kj2 (rd_L2 l1 0)).bind fun t179 => ((clash_first.f kj2 (([(⟨t175, t179⟩ : S77)] : List (S77)))).bind fun bt185 => (some (bt185.1, bt185.2.1, bt185.2.2)))) else (none)) = some (r1, r2, r3) := H
      have A10 := Aside0.mk A100
      clear A100
      by_cases c11 : 0 < (l1.length : Int)
      ·rw [if_pos c11] at H
       have c11b0 : decide (0 < (l1.length : Int)) = true := decide_eq_true c11
       have c11b1 : decide (0 < l1.length) = true := decide_eq_true (by omega)
       clear c11
       replace H := Option.bind_eq_some_iff.mp H
       obtain ⟨t179, A120, H⟩ := H
       replace H : ((clash_first.f kj2 (([(⟨t175, t179⟩ : S77)] : List (S77)))).bind fun bt185 => (some (bt185.1, bt185.2.1, bt185.2.2))) = some (r1, r2, r3) := H
       have A12 := Aside0.mk A120
       clear A120
       obtain ⟨y182, hy182⟩ : ∃ y_ : List (S77), y_ = (([(⟨t175, t179⟩ : S77)] : List (S77))) := ⟨_, rfl⟩
       replace H : ((clash_first.f kj2 y182).bind fun bt185 => (some (bt185.1, bt185.2.1, bt185.2.2))) = some (r1, r2, r3) := by first | (rw [hy182]; with_reducible exact H) | (have H2_ := (Option.bind_some _ _).symm.trans H; rw [hy182]; with_reducible exact H2_) | (have H2_ := (Option.bind_some _ _).symm.trans H; with_reducible exact H2_) | with_reducible exact H | (rw [hy182]; exact H) | exact H
       have Ny182 := Aside0.mk hy182
       clear hy182
       replace H := Option.bind_eq_some_iff.mp H
       obtain ⟨⟨t185, t188, t191⟩, A130, H⟩ := H
       replace H : (some (t185, t188, t191)) = some (r1, r2, r3) := H
       have A13 := Aside0.mk A130
       clear A130
       simp only [Option.some.injEq, Prod.mk.injEq] at H
       obtain ⟨rfl, rfl, rfl⟩ := H
       try go_wp2
       have n0_ := Aside0.mk (blk_drew BK173.out)
       have n1_ := Aside0.mk (below_drew1 HB.out)
       clear BK173
       clear HB
       have BK173 := n0_
       have HB := n1_
       clear n0_ n1_
       have p174 : 0 ≤ (0 : Int) := (by omega)
       have q174 : 0 < (l0.length : Int) := of_decide_eq_true (by first | (with_reducible assumption) | assumption)
       obtain ⟨ad174, A174_0, c174_0, e174, hx174_0, hl174_0, hi174_0⟩ := at_L2 HR0.out 0 p174 q174
       have hw174_0 := hx174_0
       (try rw [show ((0 : Int)).toNat = 0 from rfl] at hw174_0)
       (try rw [show 0 * 1 = 0 from rfl] at hw174_0)
       (try rw [Addr.add_zero'] at hw174_0)
       cases e174
       have qi174 : (0 < l0.length) = True := eq_true (by omega)
       (try rw [show ((0 : Int)).toNat = 0 from rfl] at hx174_0)
       (try rw [Addr.add_zero'] at hx174_0)
       replace hx174_0 := (HB.out.cell (World.block_lt_of_cell? w _ hx174_0)).trans hx174_0
       have HR174_0 := Aside0.mk hi174_0
       have HC174_0 := Aside0.mk hl174_0
       clear hi174_0 hl174_0
       replace p174 := eq_true p174
       replace q174 := eq_true q174
       have p178 : 0 ≤ (0 : Int) := (by omega)
       have q178 : 0 < (l1.length : Int) := of_decide_eq_true (by first | (with_reducible assumption) | assumption)
       obtain ⟨ad178, A178_0, c178_0, e178, hx178_0, hl178_0, hi178_0⟩ := at_L2 HR1.out 0 p178 q178
       have hw178_0 := hx178_0
       (try rw [show ((0 : Int)).toNat = 0 from rfl] at hw178_0)
       (try rw [show 0 * 1 = 0 from rfl] at hw178_0)
       (try rw [Addr.add_zero'] at hw178_0)
       cases e178
       have qi178 : (0 < l1.length) = True := eq_true (by omega)
       (try rw [show ((0 : Int)).toNat = 0 from rfl] at hx178_0)
       (try rw [Addr.add_zero'] at hx178_0)
       replace hx178_0 := (HB.out.cell (World.block_lt_of_cell? w _ hx178_0)).trans hx178_0
       have HR178_0 := Aside0.mk hi178_0
       have HC178_0 := Aside0.mk hl178_0
       clear hi178_0 hl178_0
       replace p178 := eq_true p178
       replace q178 := eq_true q178
       refine start_ (n := 15) (S := fun w' => w'.cell? ad174 = some (.slice A174_0 (rd_L2 l0 0).length c174_0) ∧ w'.cell? ad178 = some (.slice A178_0 (rd_L2 l1 0).length c178_0)) (ds := []) #[false, false, false, false, false, false, false, false, false, false, false, false, false, false, false] (by kernel_rfl) rfl rfl ⟨((HB.out.cell (World.block_lt_of_cell? w _ hw174_0)).trans hw174_0), ((HB.out.cell (World.block_lt_of_cell? w _ hw178_0)).trans hw178_0)⟩ (fun hHeld => ?_); refine with_tabW clash_Two.tab4 clash_Two.bits4 (fun HT_ HW_ => ?_)
       generalize wc.drew = w14 at BK173 HB HR174_0 HR178_0 hx174_0 hx178_0 hHeld ⊢
       refine HBulk.bulkT (fuel := 9) HT_.out HW_.out [(0, some 25, false), (1, some 26, false), (4, some 29, false), (5, some 30, false), (2, some 27, true), (6, some 31, true)] #[true, true, true, false, true, true, true, false, false, false, false, false, false, false, false] (a' := ?_) (by kernel_rfl) rfl hHeld ?_ ?_
       rotate_left
       ·repeat
         refine HBulk.RunsM.cons (v := ?_) (a1 := ?_) rfl rfl (fun _ _ _ h => h) (by rfl) ?_ ?_ ?_
         rotate_left
         ·intro w' hS_; (try (obtain ⟨s0, s1⟩ := hS_ rfl))
          go_simp
          with_reducible rfl
         rotate_left
         ·simp only [Act.put, List.setIfInBounds_toArray, List.set_cons_zero, List.set_cons_succ, i64_w, i32_w]
          rfl
        exact HBulk.RunsM.nil
       refine one_ (i := 3) (N := some 28) #[true, true, true, true, true, true, true, false, false, false, false, false, false, false, false] rfl rfl (one_of HT_.out (by kernel_rfl)) (by decide) (fun K hK => ?_)
       refine goes_ Tryd.func58 (by kernel_rfl) rfl #[.slice A174_0 (rd_L2 l0 0).length c174_0] (by rfl) rfl rfl zm ?_
       with_reducible refine (seal_LeafBytes.calls kj2 _ _ (rd_L2 l0 0) t175 _ ?side1 ?side2 A10.out).mono ?_
       (case side1 => exact zc (Kd.C_below HR174_0.out HB.out))
       (case side2 => exact HC174_0.out)
       rintro e w15 ⟨v176, rfl, ho0, hb⟩
       refine ⟨_, rfl, ?_⟩
       have n0_ := zL1 ho0 HB GE173
       have n1_ := zK BK173 hb
       have n2_ := zS1 HB GE173 hb
       clear BK173
       clear HB
       have HO177 := n0_
       have BK173 := n1_
       have HB := n2_
       clear n0_ n1_ n2_
       (try clear hb)
       (try clear hb2)
       (try clear hk)
       (try clear hi)
       (try clear ho0)
       refine hK.out _ _ ⟨((HB.out.cell (World.block_lt_of_cell? w _ hw174_0)).trans hw174_0), ((HB.out.cell (World.block_lt_of_cell? w _ hw178_0)).trans hw178_0)⟩ (fun hHeld => ?_)
       clear hK K
       refine norm_ (a' := ?_) ?_ ?_
       rotate_left
       ·show Act.put _ (some 28) _ = _
        simp only [Act.put, List.setIfInBounds_toArray, List.set_cons_zero, List.set_cons_succ, i64_w, i32_w]
        rfl
       refine one_ (i := 7) (N := some 32) #[true, true, true, true, true, true, true, true, false, false, false, false, false, false, false] rfl rfl (one_of HT_.out (by kernel_rfl)) (by decide) (fun K hK => ?_)
       refine goes_ Tryd.func58 (by kernel_rfl) rfl #[.slice A178_0 (rd_L2 l1 0).length c178_0] (by rfl) rfl rfl zm ?_
       with_reducible refine (seal_LeafBytes.calls kj2 _ _ (rd_L2 l1 0) t179 _ ?side1 ?side2 A12.out).mono ?_
       (case side1 => exact zc (Kd.C_below HR178_0.out HB.out))
       (case side2 => exact HC178_0.out)
       rintro e w16 ⟨v180, rfl, ho0, hb⟩
       refine ⟨_, rfl, ?_⟩
       have n0_ := Aside0.mk (Kd.R_elder' (zr HO177.out) (Kd.R_base ho0) hb)
       have n1_ := Aside0.mk (Kd.R_lower (Kd.R_new' ho0 (Kd.R_lt (zr HO177.out))) (below_size (zb1 HB.out GE173.out)))
       have n2_ := zK BK173 hb
       have n3_ := zS1 HB GE173 hb
       clear HO177
       clear BK173
       clear HB
       have HO177 := n0_
       have HO181 := n1_
       have BK173 := n2_
       have HB := n3_
       clear n0_ n1_ n2_ n3_
       (try clear hb)
       (try clear hb2)
       (try clear hk)
       (try clear hi)
       (try clear ho0)
       obtain ⟨Ao17, co17, eo17⟩ := Kd.R_slice HO181.out
       (first | subst eo17 | (injection eo17 with f1_ f2_ f3_; have f4_ := f1_.symm; have f5_ := f3_.symm; clear f1_ f2_ f3_; subst f4_; subst f5_))
       obtain ⟨Ao18, co18, eo18⟩ := Kd.R_slice HO177.out
       (first | subst eo18 | (injection eo18 with f1_ f2_ f3_; have f4_ := f1_.symm; have f5_ := f3_.symm; clear f1_ f2_ f3_; subst f4_; subst f5_))
       refine hK.out _ _ ⟨((HB.out.cell (World.block_lt_of_cell? w _ hw174_0)).trans hw174_0), ((HB.out.cell (World.block_lt_of_cell? w _ hw178_0)).trans hw178_0)⟩ (fun hHeld => ?_)
       clear hK K
       refine norm_ (a' := ?_) ?_ ?_
       rotate_left
       ·show Act.put _ (some 32) _ = _
        simp only [Act.put, List.setIfInBounds_toArray, List.set_cons_zero, List.set_cons_succ, i64_w, i32_w]
        rfl
       refine pure_ (i := 8) (N := some 33) (v := ?_) (a' := ?_) #[true, true, true, true, true, true, true, true, true, false, false, false, false, false, false] rfl rfl (any_of HT_.out (by kernel_rfl)) (fun _ _ _ h => h) (Or.inl ⟨by rfl, ?_⟩) ?_ ?_
       rotate_left
       ·intro w'
        go_simp
        with_reducible rfl
       rotate_left
       ·simp only [Act.put, List.setIfInBounds_toArray, List.set_cons_zero, List.set_cons_succ, i64_w, i32_w]
        rfl
       refine one_ (i := 9) (N := some 34) #[true, true, true, true, true, true, true, true, true, true, false, false, false, false, false] rfl rfl (one_of HT_.out (by kernel_rfl)) (by decide) (fun K hK => ?_)
       refine Kd.N_lit_step k77 _ 77 ?hg (N' := 34) ?hd (xs := ([(⟨t175, t179⟩ : S77)] : List (S77))) (inner := [.slice Ao18 t175.length co18, .slice Ao17 t179.length co17]) (ok := (fun k_ => k_ ≠ gb173)) (okp := (fun k_ => k_ ≠ gb173)) ?hr ?hp (fun _ hk => hk) ((show ∀ k_, w16.heap.size ≤ k_ → (fun k_ => k_ ≠ gb173) k_ from fun k_ hk => Kd.freshB (g := gb173) (o := .cells #[.slice none 0 0, .slice none 0 0] 44 (0, 0)) (zk BK173.out) k_ hk) _ (Nat.le_refl _)) (Below.refl _ _) (Nat.le_refl _) (by simp) ?_; (case hd => rfl); (case hg => rfl); (case hr => first | (go_simp; done) | (go_simp; rfl)); (case hp => exact (Reps.c2 (show Kd.FK k77 _ _ (⟨t175, t179⟩ : S77) [.slice Ao18 t175.length co18, .slice Ao17 t179.length co17] from (k77_mkF _ _ (⟨t175, t179⟩ : S77) (Kd.R_reads' (Kd.R_mono (ok' := (fun k_ => k_ ≠ gb173)) (Kd.R_types (HO177.out) BK173.out (by decide)) (fun k_ hk => hk.2))).2.1 (Kd.R_F (Kd.R_mono (ok' := (fun k_ => k_ ≠ gb173)) (Kd.R_types (HO177.out) BK173.out (by decide)) (fun k_ hk => hk.2))) (Kd.R_reads' (Kd.R_mono (ok' := (fun k_ => k_ ≠ gb173)) (Kd.R_types (HO181.out) BK173.out (by decide)) (fun k_ hk => hk.2))).2.1 (Kd.R_F (Kd.R_mono (ok' := (fun k_ => k_ ≠ gb173)) (Kd.R_types (HO181.out) BK173.out (by decide)) (fun k_ hk => hk.2))))) (Reps.none _ _)))
       intro v183 w19 ho20 hb hg_ hnew_
       clear hg_ hnew_
       (first | rw [← Ny182.out] at ho20 | (simp only [Int.reduceToNat] at ho20; rw [← Ny182.out] at ho20))
       have n0_ := Aside0.mk (Kd.N_lower ho20 (below_size (zb1 HB.out GE173.out)))
       have n1_ := zK BK173 hb
       have n2_ := zS1 HB GE173 hb
       clear BK173
       clear HB
       clear HO177
       clear HO181
       have HO184 := n0_
       have BK173 := n1_
       have HB := n2_
       clear n0_ n1_ n2_
       clear hb ho20
       obtain ⟨Ao21, co21, eo21⟩ := Kd.N_slice HO184.out
       (first | subst eo21 | (injection eo21 with f1_ f2_ f3_; have f4_ := f1_.symm; have f5_ := f3_.symm; clear f1_ f2_ f3_; subst f4_; subst f5_))
       refine hK.out _ _ ⟨((HB.out.cell (World.block_lt_of_cell? w _ hw174_0)).trans hw174_0), ((HB.out.cell (World.block_lt_of_cell? w _ hw178_0)).trans hw178_0)⟩ (fun hHeld => ?_)
       clear hK K
       refine norm_ (a' := ?_) ?_ ?_
       rotate_left
       ·show Act.put _ (some 34) _ = _
        simp only [Act.put, List.setIfInBounds_toArray, List.set_cons_zero, List.set_cons_succ, i64_w, i32_w]
        rfl
       refine one_ (i := 10) (N := some 35) #[true, true, true, true, true, true, true, true, true, true, true, false, false, false, false] rfl rfl (one_of HT_.out (by kernel_rfl)) (by decide) (fun K hK => ?_)
       refine goes_ Tryd.func61 (by kernel_rfl) rfl #[.slice Ao21 y182.length co21] (by rfl) rfl rfl zm ?_
       with_reducible refine (clash_first.calls kj2 _ _ y182 t185 t188 t191 _ ?side3 ?side1 ?side2 A13.out).mono ?_
       (case side1 => exact zc (Kd.N_reads' HO184.out).2.2)
       (case side2 => exact (Kd.N_reads' HO184.out).2.1)
       (case side3 => exact gw_step hG_ (zb1 HB.out GE173.out))
       rintro e w22 ⟨v186, v189, rfl, ho0, ho1, hb⟩
       refine ⟨_, rfl, ?_⟩
       have n0_ := Aside0.mk (Kd.N_mono (Kd.N_told (Kd.N_told (Kd.N_old (by (with_reducible repeat (first | apply Kd.N_alloc | apply Kd.N_drewN | apply Kd.N_drew)); exact HO184.out) hb) (Kd.R_base ho0)) (Kd.R_base ho1)) (fun _ h_ => h_.1))
       have n1_ := zL1 ho0 HB GE173
       have n2_ := zL1 ho1 HB GE173
       have n3_ := zK BK173 hb
       have n4_ := zS1 HB GE173 hb
       clear HO184
       clear BK173
       clear HB
       have HO184 := n0_
       have HO187 := n1_
       have HO190 := n2_
       have BK173 := n3_
       have HB := n4_
       clear n0_ n1_ n2_ n3_ n4_
       (try clear hb)
       (try clear hb2)
       (try clear hk)
       (try clear hi)
       (try clear ho0)
       (try clear ho1)
       obtain ⟨Ao23, co23, eo23⟩ := Kd.R_slice HO187.out
       (first | subst eo23 | (injection eo23 with f1_ f2_ f3_; have f4_ := f1_.symm; have f5_ := f3_.symm; clear f1_ f2_ f3_; subst f4_; subst f5_))
       obtain ⟨Ao25, co25, eo25⟩ := Kd.R_slice HO190.out
       (first | subst eo25 | (injection eo25 with f1_ f2_ f3_; have f4_ := f1_.symm; have f5_ := f3_.symm; clear f1_ f2_ f3_; subst f4_; subst f5_))
       refine hK.out _ _ ⟨((HB.out.cell (World.block_lt_of_cell? w _ hw174_0)).trans hw174_0), ((HB.out.cell (World.block_lt_of_cell? w _ hw178_0)).trans hw178_0)⟩ (fun hHeld => ?_)
       clear hK K
       refine norm_ (a' := ?_) ?_ ?_
       rotate_left
       ·show Act.put _ (some 35) _ = _
        simp only [Act.put, List.setIfInBounds_toArray, List.set_cons_zero, List.set_cons_succ, i64_w, i32_w]
        rfl
       refine HBulk.bulkT (fuel := 2) HT_.out HW_.out [(11, some 36, false), (12, some 37, false)] #[true, true, true, true, true, true, true, true, true, true, true, true, true, false, false] (a' := ?_) (by kernel_rfl) rfl hHeld ?_ ?_
       rotate_left
       ·repeat
         refine HBulk.RunsM.cons (v := ?_) (a1 := ?_) rfl rfl (fun _ _ _ h => h) (by rfl) ?_ ?_ ?_
         rotate_left
         ·intro w' hS_
          go_simp
          with_reducible rfl
         rotate_left
         ·simp only [Act.put, List.setIfInBounds_toArray, List.set_cons_zero, List.set_cons_succ, i64_w, i32_w]
          rfl
        exact HBulk.RunsM.nil
       refine one_ (i := 13) (N := none) #[true, true, true, true, true, true, true, true, true, true, true, true, true, true, false] rfl rfl (one_of HT_.out (by kernel_rfl)) (by decide) (fun K hK => ?_)
       have hs24 : w22.cell? ⟨gb173, 0, none⟩ = some (.slice none 0 0) := (blk_cell BK173.out 0).trans rfl
       have hfs24 := blk_frozen BK173.out 0
       have hs26 : w22.cell? ⟨gb173, 1, none⟩ = some (.slice none 0 0) := (blk_cell BK173.out 1).trans rfl
       have hfs26 := blk_frozen BK173.out 1
       refine skip_ (w1 := ?_) (by rfl) rfl ?_ ?_
       rotate_left
       ·go_simp
        rfl
       refine hK.out _ _ ⟨((cell_far (p := ⟨gb173, _, none⟩) (by first | exact Nat.ne_of_lt (Nat.lt_of_lt_of_le (by have := World.block_lt_of_cell? _ _ hw174_0; first | rwa [add_block] at this | exact this) GW173.out) | (rw [add_block]; exact Nat.ne_of_lt (Nat.lt_of_lt_of_le (by have := World.block_lt_of_cell? _ _ hw174_0; first | rwa [add_block] at this | exact this) GW173.out)) | (show (Addr.add _ _).block ≠ _; rw [add_block]; exact Nat.ne_of_lt (Nat.lt_of_lt_of_le (by have := World.block_lt_of_cell? _ _ hw174_0; first | rwa [add_block] at this | exact this) GW173.out)) | (dsimp only; exact Nat.ne_of_lt (Nat.lt_of_lt_of_le (by have := World.block_lt_of_cell? _ _ hw174_0; first | rwa [add_block] at this | exact this) GW173.out))) _).trans (((cell_far (p := ⟨gb173, _, none⟩) (by first | exact Nat.ne_of_lt (Nat.lt_of_lt_of_le (by have := World.block_lt_of_cell? _ _ hw174_0; first | rwa [add_block] at this | exact this) GW173.out) | (rw [add_block]; exact Nat.ne_of_lt (Nat.lt_of_lt_of_le (by have := World.block_lt_of_cell? _ _ hw174_0; first | rwa [add_block] at this | exact this) GW173.out)) | (show (Addr.add _ _).block ≠ _; rw [add_block]; exact Nat.ne_of_lt (Nat.lt_of_lt_of_le (by have := World.block_lt_of_cell? _ _ hw174_0; first | rwa [add_block] at this | exact this) GW173.out)) | (dsimp only; exact Nat.ne_of_lt (Nat.lt_of_lt_of_le (by have := World.block_lt_of_cell? _ _ hw174_0; first | rwa [add_block] at this | exact this) GW173.out))) _).trans (hHeld.1)))), ((cell_far (p := ⟨gb173, _, none⟩) (by first | exact Nat.ne_of_lt (Nat.lt_of_lt_of_le (by have := World.block_lt_of_cell? _ _ hw178_0; first | rwa [add_block] at this | exact this) GW173.out) | (rw [add_block]; exact Nat.ne_of_lt (Nat.lt_of_lt_of_le (by have := World.block_lt_of_cell? _ _ hw178_0; first | rwa [add_block] at this | exact this) GW173.out)) | (show (Addr.add _ _).block ≠ _; rw [add_block]; exact Nat.ne_of_lt (Nat.lt_of_lt_of_le (by have := World.block_lt_of_cell? _ _ hw178_0; first | rwa [add_block] at this | exact this) GW173.out)) | (dsimp only; exact Nat.ne_of_lt (Nat.lt_of_lt_of_le (by have := World.block_lt_of_cell? _ _ hw178_0; first | rwa [add_block] at this | exact this) GW173.out))) _).trans (((cell_far (p := ⟨gb173, _, none⟩) (by first | exact Nat.ne_of_lt (Nat.lt_of_lt_of_le (by have := World.block_lt_of_cell? _ _ hw178_0; first | rwa [add_block] at this | exact this) GW173.out) | (rw [add_block]; exact Nat.ne_of_lt (Nat.lt_of_lt_of_le (by have := World.block_lt_of_cell? _ _ hw178_0; first | rwa [add_block] at this | exact this) GW173.out)) | (show (Addr.add _ _).block ≠ _; rw [add_block]; exact Nat.ne_of_lt (Nat.lt_of_lt_of_le (by have := World.block_lt_of_cell? _ _ hw178_0; first | rwa [add_block] at this | exact this) GW173.out)) | (dsimp only; exact Nat.ne_of_lt (Nat.lt_of_lt_of_le (by have := World.block_lt_of_cell? _ _ hw178_0; first | rwa [add_block] at this | exact this) GW173.out))) _).trans (hHeld.2))))⟩ (fun hHeld => ?_)
       clear hK K
       refine pure_ (i := 14) (N := some 5) (v := ?_) (a' := ?_) #[true, true, true, true, true, true, true, true, true, true, true, true, true, true, true] rfl rfl (any_of HT_.out (by kernel_rfl)) (fun _ _ _ h => h) (Or.inl ⟨by rfl, ?_⟩) ?_ ?_
       rotate_left
       ·intro w'
        go_simp
        with_reducible rfl
       rotate_left
       ·simp only [Act.put, List.setIfInBounds_toArray, List.set_cons_zero, List.set_cons_succ, i64_w, i32_w]
        rfl
       refine done_ (done_of HT_.out (by kernel_rfl)) ?_
       try go_wp2
       refine bodyPost_ret (results_ct rfl _ _ gb173 44 #[.slice Ao23 t185.length co23, .slice Ao25 t188.length co25] (0, 0) _ rfl (by (with_reducible repeat (first | refine blk_drewN ?_ _ | refine blk_drew ?_ | refine blk_alloc ?_ _)); refine blk_put (cs := #[.slice Ao23 t185.length co23, .slice none 0 0]) ?_ 1 _ rfl; (with_reducible repeat (first | refine blk_drewN ?_ _ | refine blk_drew ?_ | refine blk_alloc ?_ _)); refine blk_put (cs := #[.slice none 0 0, .slice none 0 0]) ?_ 0 _ rfl; (with_reducible repeat (first | refine blk_drewN ?_ _ | refine blk_drew ?_ | refine blk_alloc ?_ _)); exact BK173.out) Tryd.underlying44 rfl (by kernel_rfl)) rfl ?_
       exact ⟨_, _, by first | rfl | (simp [errW_none, errW_some] <;> rfl) | (simp [*, errW_none, errW_some] <;> rfl), by (with_reducible repeat (first | apply Kd.R_alloc | apply Kd.R_drewN | apply Kd.R_drew)); exact Kd.R_mono (Kd.R_far (p := ⟨gb173, 1, none⟩) (Kd.R_far (p := ⟨gb173, 0, none⟩) (Kd.R_types HO187.out BK173.out (by decide)) (fun _ hk => hk.2) (.slice Ao23 t185.length co23)) (fun _ hk => hk.2) (.slice Ao25 t188.length co25)) (fun _ hk => hk.1), by (with_reducible repeat (first | apply Kd.R_alloc | apply Kd.R_drewN | apply Kd.R_drew)); exact Kd.R_mono (Kd.R_far (p := ⟨gb173, 1, none⟩) (Kd.R_far (p := ⟨gb173, 0, none⟩) (Kd.R_types HO190.out BK173.out (by decide)) (fun _ hk => hk.2) (.slice Ao23 t185.length co23)) (fun _ hk => hk.2) (.slice Ao25 t188.length co25)) (fun _ hk => hk.1), by repeat (first | (with_reducible first | exact HB.out | apply below_alloc | apply pw_below_drewN | apply below_drew1 | refine below_set ?_ GE173.out) | exact HB.out)⟩
      ·rw [if_neg c11] at H
       exact absurd H (by simp)
     ·rw [if_neg c9] at H
      exact absurd H (by simp)
    ·rw [if_neg c8] at H
     have c8b0 : ((l0.length : Int) == 1) = false := beq_eq_false_iff_ne.mpr c8
     have c8b1 : ((l0.length : Int) != 1) = true := bne_iff_ne.mpr c8
     replace H := Option.bind_eq_some_iff.mp H
     obtain ⟨t192, A270, H⟩ := H
     replace H : ((clash_halves.f kj2 t192).bind fun t195 => ((tree_Leaves.f kj2 l1).bind fun t198 => ((clash_halves.f kj2 t198).bind fun t201 => ((clash_first.f kj2 (([(⟨t195, t201⟩ : S77)] : List (S77)))).bind fun bt207 => (if bt207.2.2 = true then (some (bt207.1, bt207.2.1, true)) else ((tree_Split.f kj2 (l0.length : Int)).bind fun t215 => (if 0 ≤ t215 then (if t215 ≤ (l0.length : Int) then (if t215 ≤ (l1.length : Int) then ((clash_Two.f kj2 (l0.take (t215 : Int).toNat) (l1.take (t215 : Int).toNat)).bind fun bt224 => (if bt224.2.2 = true then (some (bt224.1, bt224.2.1, true)) else ((clash_Two.f kj2 (l0.drop (t215 : Int).toNat) (l1.drop (t215 : Int).toNat)).bind fun bt240 => (some (bt240.1, bt240.2.1, bt240.2.2))))) else (none)) else (none)) else (none)))))))) = some (r1, r2, r3) := H
     have A27 := Aside0.mk A270
     clear A270
     replace H := Option.bind_eq_some_iff.mp H
     obtain ⟨t195, A280, H⟩ := H
     replace H : ((tree_Leaves.f kj2 l1).bind fun t198 => ((clash_halves.f kj2 t198).bind fun t201 => ((clash_first.f kj2 (([(⟨t195, t201⟩ : S77)] : List (S77)))).bind fun bt207 => (if bt207.2.2 = true then (some (bt207.1, bt207.2.1, true)) else ((tree_Split.f kj2 (l0.length : Int)).bind fun t215 => (if 0 ≤ t215 then (if t215 ≤ (l0.length : Int) then (if t215 ≤ (l1.length : Int) then ((clash_Two.f kj2 (l0.take (t215 : Int).toNat) (l1.take (t215 : Int).toNat)).bind fun bt224 => (if bt224.2.2 = true then (some (bt224.1, bt224.2.1, true)) else ((clash_Two.f kj2 (l0.drop (t215 : Int).toNat) (l1.drop (t215 : Int).toNat)).bind fun bt240 => (some (bt240.1, bt240.2.1, bt240.2.2))))) else (none)) else (none)) else (none))))))) = some (r1, r2, r3) := H
     have A28 := Aside0.mk A280
     clear A280
     replace H := Option.bind_eq_some_iff.mp H
     obtain ⟨t198, A290, H⟩ := H
     replace H : ((clash_halves.f kj2 t198).bind fun t201 => ((clash_first.f kj2 (([(⟨t195, t201⟩ : S77)] : List (S77)))).bind fun bt207 => (if bt207.2.2 = true then (some (bt207.1, bt207.2.1, true)) else ((tree_Split.f kj2 (l0.length : Int)).bind fun t215 => (if 0 ≤ t215 then (if t215 ≤ (l0.length : Int) then (if t215 ≤ (l1.length : Int) then ((clash_Two.f kj2 (l0.take (t215 : Int).toNat) (l1.take (t215 : Int).toNat)).bind fun bt224 => (if bt224.2.2 = true then (some (bt224.1, bt224.2.1, true)) else ((clash_Two.f kj2 (l0.drop (t215 : Int).toNat) (l1.drop (t215 : Int).toNat)).bind fun bt240 => (some (bt240.1, bt240.2.1, bt240.2.2))))) else (none)) else (none)) else (none)))))) = some (r1, r2, r3) := H
     have A29 := Aside0.mk A290
     clear A290
     replace H := Option.bind_eq_some_iff.mp H
     obtain ⟨t201, A300, H⟩ := H
     replace H : ((clash_first.f kj2 (([(⟨t195, t201⟩ : S77)] : List (S77)))).bind fun bt207 => (if bt207.2.2 = true then (some (bt207.1, bt207.2.1, true)) else ((tree_Split.f kj2 (l0.length : Int)).bind fun t215 => (if 0 ≤ t215 then (if t215 ≤ (l0.length : Int) then (if t215 ≤ (l1.length : Int) then ((clash_Two.f kj2 (l0.take (t215 : Int).toNat) (l1.take (t215 : Int).toNat)).bind fun bt224 => (if bt224.2.2 = true then (some (bt224.1, bt224.2.1, true)) else ((clash_Two.f kj2 (l0.drop (t215 : Int).toNat) (l1.drop (t215 : Int).toNat)).bind fun bt240 => (some (bt240.1, bt240.2.1, bt240.2.2))))) else (none)) else (none)) else (none))))) = some (r1, r2, r3) := H
     have A30 := Aside0.mk A300
     clear A300
     obtain ⟨y204, hy204⟩ : ∃ y_ : List (S77), y_ = (([(⟨t195, t201⟩ : S77)] : List (S77))) := ⟨_, rfl⟩
     replace H : ((clash_first.f kj2 y204).bind fun bt207 => (if bt207.2.2 = true then (some (bt207.1, bt207.2.1, true)) else ((tree_Split.f kj2 (l0.length : Int)).bind fun t215 => (if 0 ≤ t215 then (if t215 ≤ (l0.length : Int) then (if t215 ≤ (l1.length : Int) then ((clash_Two.f kj2 (l0.take (t215 : Int).toNat) (l1.take (t215 : Int).toNat)).bind fun bt224 => (if bt224.2.2 = true then (some (bt224.1, bt224.2.1, true)) else ((clash_Two.f kj2 (l0.drop (t215 : Int).toNat) (l1.drop (t215 : Int).toNat)).bind fun bt240 => (some (bt240.1, bt240.2.1, bt240.2.2))))) else (none)) else (none)) else (none))))) = some (r1, r2, r3) := by first | (rw [hy204]; with_reducible exact H) | (have H2_ := (Option.bind_some _ _).symm.trans H; rw [hy204]; with_reducible exact H2_) | (have H2_ := (Option.bind_some _ _).symm.trans H; with_reducible exact H2_) | with_reducible exact H | (rw [hy204]; exact H) | exact H
     have Ny204 := Aside0.mk hy204
     clear hy204
     replace H := Option.bind_eq_some_iff.mp H
     obtain ⟨⟨t207, t210, t213⟩, A310, H⟩ := H
     replace H : (if t213 = true then (some (t207, t210, true)) else ((tree_Split.f kj2 (l0.length : Int)).bind fun t215 => (if 0 ≤ t215 then (if t215 ≤ (l0.length : Int) then (if t215 ≤ (l1.length : Int) then ((clash_Two.f kj2 (l0.take (t215 : Int).toNat) (l1.take (t215 : Int).toNat)).bind fun bt224 => (if bt224.2.2 = true then (some (bt224.1, bt224.2.1, true)) else ((clash_Two.f kj2 (l0.drop (t215 : Int).toNat) (l1.drop (t215 : Int).toNat)).bind fun bt240 => (some (bt240.1, bt240.2.1, bt240.2.2))))) else (none)) else (none)) else (none)))) = some (r1, r2, r3) := H
     have A31 := Aside0.mk A310
     clear A310
     by_cases c32 : t213 = true
     ·subst c32
      have H1 : (some (t207, t210, true)) = some (r1, r2, r3) := by rw [if_pos rfl] at H; exact H
      clear H
      have H := H1
      clear H1
      simp only [Option.some.injEq, Prod.mk.injEq] at H
      obtain ⟨rfl, rfl, rfl⟩ := H
      go_wp2_with (first | ((with_reducible refine gate_callee (f := 46) rfl ?_); refine goesL_ (some 40) rfl rfl Tryd.func46 (by kernel_rfl) rfl #[.slice A0 l0.length c0] rfl zm ?_; (with_reducible refine (tree_Leaves.calls kj2 _ _ l0 t192 _ ?side3 ?side1 ?side2 A27.out).mono ?_); (case side1 => exact zc (Kd.C_below HR0.out HB.out)); (case side2 => exact HC0.out); (case side3 => exact gw_step hG_ (zb1 HB.out GE173.out)); rintro e w33 ⟨v193, rfl, ho0, hb⟩; refine ⟨_, rfl, ?_⟩; have n0_ := zL1 ho0 HB GE173; have n1_ := zK BK173 hb; have n2_ := zS1 HB GE173 hb; clear BK173; clear HB; have HO194 := n0_; have BK173 := n1_; have HB := n2_; clear n0_ n1_ n2_; (try clear hb); (try clear hb2); (try clear hk); (try clear hi); (try clear ho0); obtain ⟨Ao34, co34, eo34⟩ := Kd.R_slice HO194.out; subst eo34) | ((with_reducible refine gate_callee (f := 60) rfl ?_); refine goesL_ (some 41) rfl rfl Tryd.func60 (by kernel_rfl) rfl #[.slice Ao34 t192.length co34] rfl zm ?_; (with_reducible refine (clash_halves.calls kj2 _ _ t192 t195 _ ?side3 ?side1 ?side2 A28.out).mono ?_); (case side1 => exact zc (Kd.R_reads' HO194.out).2.2); (case side2 => exact (Kd.R_reads' HO194.out).2.1); (case side3 => exact gw_step hG_ (zb1 HB.out GE173.out)); rintro e w35 ⟨v196, rfl, ho0, hb⟩; refine ⟨_, rfl, ?_⟩; have n0_ := zR HO194 hb; have n1_ := zL1 ho0 HB GE173; have n2_ := zK BK173 hb; have n3_ := zS1 HB GE173 hb; clear HO194; clear BK173; clear HB; have HO194 := n0_; have HO197 := n1_; have BK173 := n2_; have HB := n3_; clear n0_ n1_ n2_ n3_; (try clear hb); (try clear hb2); (try clear hk); (try clear hi); (try clear ho0)) | ((with_reducible refine gate_callee (f := 46) rfl ?_); refine goesL_ (some 43) rfl rfl Tryd.func46 (by kernel_rfl) rfl #[.slice A1 l1.length c1] rfl zm ?_; (with_reducible refine (tree_Leaves.calls kj2 _ _ l1 t198 _ ?side3 ?side1 ?side2 A29.out).mono ?_); (case side1 => exact zc (Kd.C_below HR1.out HB.out)); (case side2 => exact HC1.out); (case side3 => exact gw_step hG_ (zb1 HB.out GE173.out)); rintro e w36 ⟨v199, rfl, ho0, hb⟩; refine ⟨_, rfl, ?_⟩; have n0_ := Aside0.mk (Kd.R_elder' (zr HO194.out) (Kd.R_base ho0) hb); have n1_ := zR HO197 hb; have n2_ := Aside0.mk (Kd.R_lower (Kd.R_new' ho0 (Kd.R_lt (zr HO194.out))) (below_size (zb1 HB.out GE173.out))); have n3_ := zK BK173 hb; have n4_ := zS1 HB GE173 hb; clear HO194; clear HO197; clear BK173; clear HB; have HO194 := n0_; have HO197 := n1_; have HO200 := n2_; have BK173 := n3_; have HB := n4_; clear n0_ n1_ n2_ n3_ n4_; (try clear hb); (try clear hb2); (try clear hk); (try clear hi); (try clear ho0); obtain ⟨Ao37, co37, eo37⟩ := Kd.R_slice HO200.out; subst eo37) | ((with_reducible refine gate_callee (f := 60) rfl ?_); refine goesL_ (some 44) rfl rfl Tryd.func60 (by kernel_rfl) rfl #[.slice Ao37 t198.length co37] rfl zm ?_; (with_reducible refine (clash_halves.calls kj2 _ _ t198 t201 _ ?side3 ?side1 ?side2 A30.out).mono ?_); (case side1 => exact zc (Kd.R_reads' HO200.out).2.2); (case side2 => exact (Kd.R_reads' HO200.out).2.1); (case side3 => exact gw_step hG_ (zb1 HB.out GE173.out)); rintro e w38 ⟨v202, rfl, ho0, hb⟩; refine ⟨_, rfl, ?_⟩; have n0_ := zR HO194 hb; have n1_ := Aside0.mk (Kd.R_elder' (zr HO197.out) (Kd.R_base ho0) hb); have n2_ := zR HO200 hb; have n3_ := Aside0.mk (Kd.R_lower (Kd.R_new' ho0 (Kd.R_lt (zr HO197.out))) (below_size (zb1 HB.out GE173.out))); have n4_ := zK BK173 hb; have n5_ := zS1 HB GE173 hb; clear HO194; clear HO197; clear HO200; clear BK173; clear HB; have HO194 := n0_; have HO197 := n1_; have HO200 := n2_; have HO203 := n3_; have BK173 := n4_; have HB := n5_; clear n0_ n1_ n2_ n3_ n4_ n5_; (try clear hb); (try clear hb2); (try clear hk); (try clear hi); (try clear ho0); obtain ⟨Ao39, co39, eo39⟩ := Kd.R_slice HO203.out; subst eo39; obtain ⟨Ao40, co40, eo40⟩ := Kd.R_slice HO197.out; subst eo40) | ((with_reducible refine gate_dst (N := 46) rfl ?_); (try (refine gate_guard (by rfl) ?_; dsimp only)); refine Kd.N_lit k77 _ 77 ?hg (N' := 46) ?hd (xs := ([(⟨t195, t201⟩ : S77)] : List (S77))) (inner := [.slice Ao40 t195.length co40, .slice Ao39 t201.length co39]) (ok := (fun k_ => some k_ ≠ (.slice Ao34 t192.length co34 : Value).ownBlock ∧ some k_ ≠ (.slice Ao37 t198.length co37 : Value).ownBlock ∧ k_ ≠ gb173)) (okp := (fun k_ => some k_ ≠ (.slice Ao34 t192.length co34 : Value).ownBlock ∧ some k_ ≠ (.slice Ao37 t198.length co37 : Value).ownBlock ∧ k_ ≠ gb173)) ?hr ?hp (fun _ hk => hk) ((show ∀ k_, w38.heap.size ≤ k_ → (fun k_ => some k_ ≠ (.slice Ao34 t192.length co34 : Value).ownBlock ∧ some k_ ≠ (.slice Ao37 t198.length co37 : Value).ownBlock ∧ k_ ≠ gb173) k_ from fun k_ hk => ⟨Kd.fresh' (Kd.R_lt (zr HO194.out)) k_ hk, Kd.fresh' (Kd.R_lt (zr HO200.out)) k_ hk, Kd.freshB (g := gb173) (o := .cells #[.slice none 0 0, .slice none 0 0] 44 (0, 0)) (zk BK173.out) k_ hk⟩) _ (Nat.le_refl _)) (Below.refl _ _) (Nat.le_refl _) (by simp) ?_; (case hd => rfl); (case hg => rfl); (case hr => first | (go_simp; done) | (go_simp; rfl)); (case hp => exact (Reps.c2 (show Kd.FK k77 _ _ (⟨t195, t201⟩ : S77) [.slice Ao40 t195.length co40, .slice Ao39 t201.length co39] from (k77_mkF _ _ (⟨t195, t201⟩ : S77) (Kd.R_reads' (Kd.R_mono (ok' := (fun k_ => some k_ ≠ (.slice Ao34 t192.length co34 : Value).ownBlock ∧ some k_ ≠ (.slice Ao37 t198.length co37 : Value).ownBlock ∧ k_ ≠ gb173)) (Kd.R_types (Kd.R_apart' (Kd.R_apart' (HO197.out) (Kd.R_typed HO194.out) (by decide)) (Kd.R_typed HO200.out) (by decide)) BK173.out (by decide)) (fun k_ hk => ⟨hk.1.1.2, ⟨hk.1.2, hk.2⟩⟩))).2.1 (Kd.R_F (Kd.R_mono (ok' := (fun k_ => some k_ ≠ (.slice Ao34 t192.length co34 : Value).ownBlock ∧ some k_ ≠ (.slice Ao37 t198.length co37 : Value).ownBlock ∧ k_ ≠ gb173)) (Kd.R_types (Kd.R_apart' (Kd.R_apart' (HO197.out) (Kd.R_typed HO194.out) (by decide)) (Kd.R_typed HO200.out) (by decide)) BK173.out (by decide)) (fun k_ hk => ⟨hk.1.1.2, ⟨hk.1.2, hk.2⟩⟩))) (Kd.R_reads' (Kd.R_mono (ok' := (fun k_ => some k_ ≠ (.slice Ao34 t192.length co34 : Value).ownBlock ∧ some k_ ≠ (.slice Ao37 t198.length co37 : Value).ownBlock ∧ k_ ≠ gb173)) (Kd.R_types (Kd.R_apart' (Kd.R_apart' (HO203.out) (Kd.R_typed HO194.out) (by decide)) (Kd.R_typed HO200.out) (by decide)) BK173.out (by decide)) (fun k_ hk => ⟨hk.1.1.2, ⟨hk.1.2, hk.2⟩⟩))).2.1 (Kd.R_F (Kd.R_mono (ok' := (fun k_ => some k_ ≠ (.slice Ao34 t192.length co34 : Value).ownBlock ∧ some k_ ≠ (.slice Ao37 t198.length co37 : Value).ownBlock ∧ k_ ≠ gb173)) (Kd.R_types (Kd.R_apart' (Kd.R_apart' (HO203.out) (Kd.R_typed HO194.out) (by decide)) (Kd.R_typed HO200.out) (by decide)) BK173.out (by decide)) (fun k_ hk => ⟨hk.1.1.2, ⟨hk.1.2, hk.2⟩⟩))))) (Reps.none _ _))); intro v205 w41 ho42 hb hg_ hnew_; clear hg_ hnew_; (first | rw [← Ny204.out] at ho42 | (simp only [Int.reduceToNat] at ho42; rw [← Ny204.out] at ho42)); have n0_ := zR HO194 hb; have n1_ := zR HO200 hb; have n2_ := Aside0.mk (Kd.N_lower ho42 (below_size (zb1 HB.out GE173.out))); have n3_ := zK BK173 hb; have n4_ := zS1 HB GE173 hb; clear HO194; clear HO200; clear BK173; clear HB; clear HO197; clear HO203; have HO194 := n0_; have HO200 := n1_; have HO206 := n2_; have BK173 := n3_; have HB := n4_; clear n0_ n1_ n2_ n3_ n4_; clear hb ho42; obtain ⟨Ao43, co43, eo43⟩ := Kd.N_slice HO206.out; subst eo43) | ((with_reducible refine gate_callee (f := 61) rfl ?_); refine goesL_ (some 47) rfl rfl Tryd.func61 (by kernel_rfl) rfl #[.slice Ao43 y204.length co43] rfl zm ?_; (with_reducible refine (clash_first.calls kj2 _ _ y204 t207 t210 true _ ?side3 ?side1 ?side2 A31.out).mono ?_); (case side1 => exact zc (Kd.N_reads' HO206.out).2.2); (case side2 => exact (Kd.N_reads' HO206.out).2.1); (case side3 => exact gw_step hG_ (zb1 HB.out GE173.out)); rintro e w44 ⟨v208, v211, rfl, ho0, ho1, hb⟩; refine ⟨_, rfl, ?_⟩; have n0_ := zR HO194 hb; have n1_ := zR HO200 hb; have n2_ := Aside0.mk (Kd.N_mono (Kd.N_told (Kd.N_told (Kd.N_old (by (with_reducible repeat (first | apply Kd.N_alloc | apply Kd.N_drewN | apply Kd.N_drew)); exact HO206.out) hb) (Kd.R_base ho0)) (Kd.R_base ho1)) (fun _ h_ => h_.1)); have n3_ := zL1 ho0 HB GE173; have n4_ := zL1 ho1 HB GE173; have n5_ := zK BK173 hb; have n6_ := zS1 HB GE173 hb; clear HO194; clear HO200; clear HO206; clear BK173; clear HB; have HO194 := n0_; have HO200 := n1_; have HO206 := n2_; have HO209 := n3_; have HO212 := n4_; have BK173 := n5_; have HB := n6_; clear n0_ n1_ n2_ n3_ n4_ n5_ n6_; (try clear hb); (try clear hb2); (try clear hk); (try clear hi); (try clear ho0); (try clear ho1)) | ((with_reducible refine gate_dst (N := 6) rfl ?_); (try (refine gate_guard (by rfl) ?_; dsimp only)); refine box_event ?hg (N := 6) ?hd (cs := #[.slice none 0 0, .slice none 0 0]) (t := 44) ?hr ?_; (case hd => rfl); (case hg => rfl); (case hr => first | (go_simp; done) | (go_simp; rfl)); intro gb214 hg w45 hbox hb; have n0_ := zR HO194 hb; have n1_ := zR HO200 hb; have n2_ := Aside0.mk (Kd.N_below (Kd.N_elderB (by (with_reducible repeat (first | apply Kd.N_alloc | apply Kd.N_drewN | apply Kd.N_drew)); exact HO206.out) gb214 (Nat.le_of_eq hg.symm)) hb); have n3_ := zR HO209 hb; have n4_ := zR HO212 hb; have n5_ := zK BK173 hb; have n6_ := zS1 HB GE173 hb; have n7_ := Aside0.mk (hbox); have n8_ := Aside0.mk ((by rw [hg]; exact (below_size (zb1 HB.out GE173.out)) : w.heap.size ≤ gb214)); have n9_ := Aside0.mk ((by rw [hg]; exact (below_size (zb1 HB.out GE173.out)) : w.heap.size ≤ gb214)); have n10_ := Aside0.mk ((by rw [hg]; exact Nat.ne_of_lt (blk_lt (g := gb173) (o := .cells #[.slice none 0 0, .slice none 0 0] 44 (0, 0)) (zk BK173.out)) : gb173 ≠ gb214)); have n11_ := Aside0.mk ((by rw [hg]; exact Nat.ne_of_gt (blk_lt (g := gb173) (o := .cells #[.slice none 0 0, .slice none 0 0] 44 (0, 0)) (zk BK173.out)) : gb214 ≠ gb173)); clear HO194; clear HO200; clear HO206; clear HO209; clear HO212; clear BK173; clear HB; have HO194 := n0_; have HO200 := n1_; have HO206 := n2_; have HO209 := n3_; have HO212 := n4_; have BK173 := n5_; have HB := n6_; have BK214 := n7_; have GW214 := n8_; have GE214 := n9_; have NB173_214 := n10_; have NB214_173 := n11_; clear n0_ n1_ n2_ n3_ n4_ n5_ n6_ n7_ n8_ n9_ n10_ n11_; clear hb hbox hg; obtain ⟨Ao46, co46, eo46⟩ := Kd.R_slice HO209.out; subst eo46; have hnb47 := NB214_173.out; have hnc47 := NB173_214.out; have hcz48_0 : w45.cell? ⟨gb214, 0, none⟩ = some (.slice none 0 0) := (blk_cell BK214.out 0).trans rfl; have hcz48_1 : w45.cell? ⟨gb214, 1, none⟩ = some (.slice none 0 0) := (blk_cell BK214.out 1).trans rfl; have hfz48_0 := blk_frozen BK214.out 0; have hfz48_1 := blk_frozen BK214.out 1; obtain ⟨Ao49, co49, eo49⟩ := Kd.R_slice HO212.out; subst eo49; have hcz50_0 : w45.cell? ⟨gb173, 0, none⟩ = some (.slice none 0 0) := (blk_cell BK173.out 0).trans rfl; have hcz50_1 : w45.cell? ⟨gb173, 1, none⟩ = some (.slice none 0 0) := (blk_cell BK173.out 1).trans rfl; have hfz50_0 := blk_frozen BK173.out 0; have hfz50_1 := blk_frozen BK173.out 1))
      refine bodyPost_ret (results_ct rfl _ _ gb173 44 #[.slice Ao46 t207.length co46, .slice Ao49 t210.length co49] (0, 0) _ rfl (by (with_reducible repeat (first | refine blk_drewN ?_ _ | refine blk_drew ?_ | refine blk_alloc ?_ _)); refine blk_put (cs := #[.slice Ao46 t207.length co46, .slice none 0 0]) ?_ 1 _ rfl; (with_reducible repeat (first | refine blk_drewN ?_ _ | refine blk_drew ?_ | refine blk_alloc ?_ _)); refine blk_put (cs := #[.slice none 0 0, .slice none 0 0]) ?_ 0 _ rfl; (with_reducible repeat (first | refine blk_drewN ?_ _ | refine blk_drew ?_ | refine blk_alloc ?_ _)); refine blk_far ?_ NB173_214.out _; (with_reducible repeat (first | refine blk_drewN ?_ _ | refine blk_drew ?_ | refine blk_alloc ?_ _)); refine blk_far ?_ NB173_214.out _; (with_reducible repeat (first | refine blk_drewN ?_ _ | refine blk_drew ?_ | refine blk_alloc ?_ _)); exact BK173.out) Tryd.underlying44 rfl (by kernel_rfl)) rfl ?_
      exact ⟨_, _, by first | rfl | (simp [errW_none, errW_some] <;> rfl) | (simp [*, errW_none, errW_some] <;> rfl), by (with_reducible repeat (first | apply Kd.R_alloc | apply Kd.R_drewN | apply Kd.R_drew)); exact Kd.R_mono (Kd.R_far (p := ⟨gb173, 1, none⟩) (Kd.R_far (p := ⟨gb173, 0, none⟩) (Kd.R_far (p := ⟨gb214, 1, none⟩) (Kd.R_far (p := ⟨gb214, 0, none⟩) (Kd.R_types (Kd.R_types HO209.out BK214.out (by decide)) BK173.out (by decide)) (fun _ hk => hk.1.2) (.slice Ao46 t207.length co46)) (fun _ hk => hk.1.2) (.slice Ao49 t210.length co49)) (fun _ hk => hk.2) (.slice Ao46 t207.length co46)) (fun _ hk => hk.2) (.slice Ao49 t210.length co49)) (fun _ hk => hk.1.1), by (with_reducible repeat (first | apply Kd.R_alloc | apply Kd.R_drewN | apply Kd.R_drew)); exact Kd.R_mono (Kd.R_far (p := ⟨gb173, 1, none⟩) (Kd.R_far (p := ⟨gb173, 0, none⟩) (Kd.R_far (p := ⟨gb214, 1, none⟩) (Kd.R_far (p := ⟨gb214, 0, none⟩) (Kd.R_types (Kd.R_types HO212.out BK214.out (by decide)) BK173.out (by decide)) (fun _ hk => hk.1.2) (.slice Ao46 t207.length co46)) (fun _ hk => hk.1.2) (.slice Ao49 t210.length co49)) (fun _ hk => hk.2) (.slice Ao46 t207.length co46)) (fun _ hk => hk.2) (.slice Ao49 t210.length co49)) (fun _ hk => hk.1.1), by repeat (first | (with_reducible first | exact HB.out | apply below_alloc | apply pw_below_drewN | apply below_drew1 | refine below_set ?_ GE173.out | refine below_set ?_ GE214.out) | exact HB.out)⟩
     ·replace c32 := Bool.eq_false_iff.mpr c32
      subst c32
      have H1 : ((tree_Split.f kj2 (l0.length : Int)).bind fun t215 => (if 0 ≤ t215 then (if t215 ≤ (l0.length : Int) then (if t215 ≤ (l1.length : Int) then ((clash_Two.f kj2 (l0.take (t215 : Int).toNat) (l1.take (t215 : Int).toNat)).bind fun bt224 => (if bt224.2.2 = true then (some (bt224.1, bt224.2.1, true)) else ((clash_Two.f kj2 (l0.drop (t215 : Int).toNat) (l1.drop (t215 : Int).toNat)).bind fun bt240 => (some (bt240.1, bt240.2.1, bt240.2.2))))) else (none)) else (none)) else (none))) = some (r1, r2, r3) := by rw [if_neg (show ¬ (false = true) by decide)] at H; exact H
      clear H
      have H := H1
      clear H1
      replace H := Option.bind_eq_some_iff.mp H
      obtain ⟨t215, A510, H⟩ := H
      replace H : (if 0 ≤ t215 then (if t215 ≤ (l0.length : Int) then (if t215 ≤ (l1.length : Int) then ((clash_Two.f kj2 (l0.take (t215 : Int).toNat) (l1.take (t215 : Int).toNat)).bind fun bt224 => (if bt224.2.2 = true then (some (bt224.1, bt224.2.1, true)) else ((clash_Two.f kj2 (l0.drop (t215 : Int).toNat) (l1.drop (t215 : Int).toNat)).bind fun bt240 => (some (bt240.1, bt240.2.1, bt240.2.2))))) else (none)) else (none)) else (none)) = some (r1, r2, r3) := H
      have A51 := Aside0.mk A510
      clear A510
      by_cases c52 : 0 ≤ t215
      ·rw [if_pos c52] at H
       have c52b0 := eq_true c52
       have c52b1 : decide (0 ≤ t215) = true := decide_eq_true c52
       clear c52
       by_cases c53 : t215 ≤ (l0.length : Int)
       ·rw [if_pos c53] at H
        have c53b0 := eq_true c53
        have c53b1 : decide (t215 ≤ (l0.length : Int)) = true := decide_eq_true c53
        clear c53
        obtain ⟨y216, hy216⟩ : ∃ y_ : List (List Int), y_ = (l0.take (t215 : Int).toNat) := ⟨_, rfl⟩
        replace H : (if t215 ≤ (l1.length : Int) then ((clash_Two.f kj2 y216 (l1.take (t215 : Int).toNat)).bind fun bt224 => (if bt224.2.2 = true then (some (bt224.1, bt224.2.1, true)) else ((clash_Two.f kj2 (l0.drop (t215 : Int).toNat) (l1.drop (t215 : Int).toNat)).bind fun bt240 => (some (bt240.1, bt240.2.1, bt240.2.2))))) else (none)) = some (r1, r2, r3) := by first | (rw [hy216]; with_reducible exact H) | (have H2_ := (Option.bind_some _ _).symm.trans H; rw [hy216]; with_reducible exact H2_) | (have H2_ := (Option.bind_some _ _).symm.trans H; with_reducible exact H2_) | with_reducible exact H | (rw [hy216]; exact H) | exact H
        have Ny216 := Aside0.mk hy216
        clear hy216
        have c54b0 := eq_true (of_decide_eq_true (by first | (with_reducible assumption) | assumption) : 0 ≤ t215)
        by_cases c55 : t215 ≤ (l1.length : Int)
        ·rw [if_pos c55] at H
         have c55b0 := eq_true c55
         have c55b1 : decide (t215 ≤ (l1.length : Int)) = true := decide_eq_true c55
         clear c55
         obtain ⟨y220, hy220⟩ : ∃ y_ : List (List Int), y_ = (l1.take (t215 : Int).toNat) := ⟨_, rfl⟩
         replace H : ((clash_Two.f kj2 y216 y220).bind fun bt224 => (if bt224.2.2 = true then (some (bt224.1, bt224.2.1, true)) else ((clash_Two.f kj2 (l0.drop (t215 : Int).toNat) (l1.drop (t215 : Int).toNat)).bind fun bt240 => (some (bt240.1, bt240.2.1, bt240.2.2))))) = some (r1, r2, r3) := by first | (rw [hy220]; with_reducible exact H) | (have H2_ := (Option.bind_some _ _).symm.trans H; rw [hy220]; with_reducible exact H2_) | (have H2_ := (Option.bind_some _ _).symm.trans H; with_reducible exact H2_) | with_reducible exact H | (rw [hy220]; exact H) | exact H
         have Ny220 := Aside0.mk hy220
         clear hy220
         replace H := Option.bind_eq_some_iff.mp H
         obtain ⟨⟨t224, t227, t230⟩, A560, H⟩ := H
         replace H : (if t230 = true then (some (t224, t227, true)) else ((clash_Two.f kj2 (l0.drop (t215 : Int).toNat) (l1.drop (t215 : Int).toNat)).bind fun bt240 => (some (bt240.1, bt240.2.1, bt240.2.2)))) = some (r1, r2, r3) := H
         have A56 := Aside0.mk A560
         clear A560
         by_cases c57 : t230 = true
         ·subst c57
          have H1 : (some (t224, t227, true)) = some (r1, r2, r3) := by rw [if_pos rfl] at H; exact H
          clear H
          have H := H1
          clear H1
          simp only [Option.some.injEq, Prod.mk.injEq] at H
          obtain ⟨rfl, rfl, rfl⟩ := H
          try go_wp2_with (first | ((with_reducible refine gate_callee (f := 46) rfl ?_); refine goesL_ (some 40) rfl rfl Tryd.func46 (by kernel_rfl) rfl #[.slice A0 l0.length c0] rfl zm ?_; (with_reducible refine (tree_Leaves.calls kj2 _ _ l0 t192 _ ?side3 ?side1 ?side2 A27.out).mono ?_); (case side1 => exact zc (Kd.C_below HR0.out HB.out)); (case side2 => exact HC0.out); (case side3 => exact gw_step hG_ (zb1 HB.out GE173.out)); rintro e w58 ⟨v193, rfl, ho0, hb⟩; refine ⟨_, rfl, ?_⟩; have n0_ := zL1 ho0 HB GE173; have n1_ := zK BK173 hb; have n2_ := zS1 HB GE173 hb; clear BK173; clear HB; have HO194 := n0_; have BK173 := n1_; have HB := n2_; clear n0_ n1_ n2_; (try clear hb); (try clear hb2); (try clear hk); (try clear hi); (try clear ho0); obtain ⟨Ao59, co59, eo59⟩ := Kd.R_slice HO194.out; subst eo59) | ((with_reducible refine gate_callee (f := 60) rfl ?_); refine goesL_ (some 41) rfl rfl Tryd.func60 (by kernel_rfl) rfl #[.slice Ao59 t192.length co59] rfl zm ?_; (with_reducible refine (clash_halves.calls kj2 _ _ t192 t195 _ ?side3 ?side1 ?side2 A28.out).mono ?_); (case side1 => exact zc (Kd.R_reads' HO194.out).2.2); (case side2 => exact (Kd.R_reads' HO194.out).2.1); (case side3 => exact gw_step hG_ (zb1 HB.out GE173.out)); rintro e w60 ⟨v196, rfl, ho0, hb⟩; refine ⟨_, rfl, ?_⟩; have n0_ := zR HO194 hb; have n1_ := zL1 ho0 HB GE173; have n2_ := zK BK173 hb; have n3_ := zS1 HB GE173 hb; clear HO194; clear BK173; clear HB; have HO194 := n0_; have HO197 := n1_; have BK173 := n2_; have HB := n3_; clear n0_ n1_ n2_ n3_; (try clear hb); (try clear hb2); (try clear hk); (try clear hi); (try clear ho0)) | ((with_reducible refine gate_callee (f := 46) rfl ?_); refine goesL_ (some 43) rfl rfl Tryd.func46 (by kernel_rfl) rfl #[.slice A1 l1.length c1] rfl zm ?_; (with_reducible refine (tree_Leaves.calls kj2 _ _ l1 t198 _ ?side3 ?side1 ?side2 A29.out).mono ?_); (case side1 => exact zc (Kd.C_below HR1.out HB.out)); (case side2 => exact HC1.out); (case side3 => exact gw_step hG_ (zb1 HB.out GE173.out)); rintro e w61 ⟨v199, rfl, ho0, hb⟩; refine ⟨_, rfl, ?_⟩; have n0_ := Aside0.mk (Kd.R_elder' (zr HO194.out) (Kd.R_base ho0) hb); have n1_ := zR HO197 hb; have n2_ := Aside0.mk (Kd.R_lower (Kd.R_new' ho0 (Kd.R_lt (zr HO194.out))) (below_size (zb1 HB.out GE173.out))); have n3_ := zK BK173 hb; have n4_ := zS1 HB GE173 hb; clear HO194; clear HO197; clear BK173; clear HB; have HO194 := n0_; have HO197 := n1_; have HO200 := n2_; have BK173 := n3_; have HB := n4_; clear n0_ n1_ n2_ n3_ n4_; (try clear hb); (try clear hb2); (try clear hk); (try clear hi); (try clear ho0); obtain ⟨Ao62, co62, eo62⟩ := Kd.R_slice HO200.out; subst eo62) | ((with_reducible refine gate_callee (f := 60) rfl ?_); refine goesL_ (some 44) rfl rfl Tryd.func60 (by kernel_rfl) rfl #[.slice Ao62 t198.length co62] rfl zm ?_; (with_reducible refine (clash_halves.calls kj2 _ _ t198 t201 _ ?side3 ?side1 ?side2 A30.out).mono ?_); (case side1 => exact zc (Kd.R_reads' HO200.out).2.2); (case side2 => exact (Kd.R_reads' HO200.out).2.1); (case side3 => exact gw_step hG_ (zb1 HB.out GE173.out)); rintro e w63 ⟨v202, rfl, ho0, hb⟩; refine ⟨_, rfl, ?_⟩; have n0_ := zR HO194 hb; have n1_ := Aside0.mk (Kd.R_elder' (zr HO197.out) (Kd.R_base ho0) hb); have n2_ := zR HO200 hb; have n3_ := Aside0.mk (Kd.R_lower (Kd.R_new' ho0 (Kd.R_lt (zr HO197.out))) (below_size (zb1 HB.out GE173.out))); have n4_ := zK BK173 hb; have n5_ := zS1 HB GE173 hb; clear HO194; clear HO197; clear HO200; clear BK173; clear HB; have HO194 := n0_; have HO197 := n1_; have HO200 := n2_; have HO203 := n3_; have BK173 := n4_; have HB := n5_; clear n0_ n1_ n2_ n3_ n4_ n5_; (try clear hb); (try clear hb2); (try clear hk); (try clear hi); (try clear ho0); obtain ⟨Ao64, co64, eo64⟩ := Kd.R_slice HO203.out; subst eo64; obtain ⟨Ao65, co65, eo65⟩ := Kd.R_slice HO197.out; subst eo65) | ((with_reducible refine gate_dst (N := 46) rfl ?_); (try (refine gate_guard (by rfl) ?_; dsimp only)); refine Kd.N_lit k77 _ 77 ?hg (N' := 46) ?hd (xs := ([(⟨t195, t201⟩ : S77)] : List (S77))) (inner := [.slice Ao65 t195.length co65, .slice Ao64 t201.length co64]) (ok := (fun k_ => some k_ ≠ (.slice Ao59 t192.length co59 : Value).ownBlock ∧ some k_ ≠ (.slice Ao62 t198.length co62 : Value).ownBlock ∧ k_ ≠ gb173)) (okp := (fun k_ => some k_ ≠ (.slice Ao59 t192.length co59 : Value).ownBlock ∧ some k_ ≠ (.slice Ao62 t198.length co62 : Value).ownBlock ∧ k_ ≠ gb173)) ?hr ?hp (fun _ hk => hk) ((show ∀ k_, w63.heap.size ≤ k_ → (fun k_ => some k_ ≠ (.slice Ao59 t192.length co59 : Value).ownBlock ∧ some k_ ≠ (.slice Ao62 t198.length co62 : Value).ownBlock ∧ k_ ≠ gb173) k_ from fun k_ hk => ⟨Kd.fresh' (Kd.R_lt (zr HO194.out)) k_ hk, Kd.fresh' (Kd.R_lt (zr HO200.out)) k_ hk, Kd.freshB (g := gb173) (o := .cells #[.slice none 0 0, .slice none 0 0] 44 (0, 0)) (zk BK173.out) k_ hk⟩) _ (Nat.le_refl _)) (Below.refl _ _) (Nat.le_refl _) (by simp) ?_; (case hd => rfl); (case hg => rfl); (case hr => first | (go_simp; done) | (go_simp; rfl)); (case hp => exact (Reps.c2 (show Kd.FK k77 _ _ (⟨t195, t201⟩ : S77) [.slice Ao65 t195.length co65, .slice Ao64 t201.length co64] from (k77_mkF _ _ (⟨t195, t201⟩ : S77) (Kd.R_reads' (Kd.R_mono (ok' := (fun k_ => some k_ ≠ (.slice Ao59 t192.length co59 : Value).ownBlock ∧ some k_ ≠ (.slice Ao62 t198.length co62 : Value).ownBlock ∧ k_ ≠ gb173)) (Kd.R_types (Kd.R_apart' (Kd.R_apart' (HO197.out) (Kd.R_typed HO194.out) (by decide)) (Kd.R_typed HO200.out) (by decide)) BK173.out (by decide)) (fun k_ hk => ⟨hk.1.1.2, ⟨hk.1.2, hk.2⟩⟩))).2.1 (Kd.R_F (Kd.R_mono (ok' := (fun k_ => some k_ ≠ (.slice Ao59 t192.length co59 : Value).ownBlock ∧ some k_ ≠ (.slice Ao62 t198.length co62 : Value).ownBlock ∧ k_ ≠ gb173)) (Kd.R_types (Kd.R_apart' (Kd.R_apart' (HO197.out) (Kd.R_typed HO194.out) (by decide)) (Kd.R_typed HO200.out) (by decide)) BK173.out (by decide)) (fun k_ hk => ⟨hk.1.1.2, ⟨hk.1.2, hk.2⟩⟩))) (Kd.R_reads' (Kd.R_mono (ok' := (fun k_ => some k_ ≠ (.slice Ao59 t192.length co59 : Value).ownBlock ∧ some k_ ≠ (.slice Ao62 t198.length co62 : Value).ownBlock ∧ k_ ≠ gb173)) (Kd.R_types (Kd.R_apart' (Kd.R_apart' (HO203.out) (Kd.R_typed HO194.out) (by decide)) (Kd.R_typed HO200.out) (by decide)) BK173.out (by decide)) (fun k_ hk => ⟨hk.1.1.2, ⟨hk.1.2, hk.2⟩⟩))).2.1 (Kd.R_F (Kd.R_mono (ok' := (fun k_ => some k_ ≠ (.slice Ao59 t192.length co59 : Value).ownBlock ∧ some k_ ≠ (.slice Ao62 t198.length co62 : Value).ownBlock ∧ k_ ≠ gb173)) (Kd.R_types (Kd.R_apart' (Kd.R_apart' (HO203.out) (Kd.R_typed HO194.out) (by decide)) (Kd.R_typed HO200.out) (by decide)) BK173.out (by decide)) (fun k_ hk => ⟨hk.1.1.2, ⟨hk.1.2, hk.2⟩⟩))))) (Reps.none _ _))); intro v205 w66 ho67 hb hg_ hnew_; clear hg_ hnew_; (first | rw [← Ny204.out] at ho67 | (simp only [Int.reduceToNat] at ho67; rw [← Ny204.out] at ho67)); have n0_ := zR HO194 hb; have n1_ := zR HO200 hb; have n2_ := Aside0.mk (Kd.N_lower ho67 (below_size (zb1 HB.out GE173.out))); have n3_ := zK BK173 hb; have n4_ := zS1 HB GE173 hb; clear HO194; clear HO200; clear BK173; clear HB; clear HO197; clear HO203; have HO194 := n0_; have HO200 := n1_; have HO206 := n2_; have BK173 := n3_; have HB := n4_; clear n0_ n1_ n2_ n3_ n4_; clear hb ho67; obtain ⟨Ao68, co68, eo68⟩ := Kd.N_slice HO206.out; subst eo68) | ((with_reducible refine gate_callee (f := 61) rfl ?_); refine goesL_ (some 47) rfl rfl Tryd.func61 (by kernel_rfl) rfl #[.slice Ao68 y204.length co68] rfl zm ?_; (with_reducible refine (clash_first.calls kj2 _ _ y204 t207 t210 false _ ?side3 ?side1 ?side2 A31.out).mono ?_); (case side1 => exact zc (Kd.N_reads' HO206.out).2.2); (case side2 => exact (Kd.N_reads' HO206.out).2.1); (case side3 => exact gw_step hG_ (zb1 HB.out GE173.out)); rintro e w69 ⟨v208, v211, rfl, ho0, ho1, hb⟩; refine ⟨_, rfl, ?_⟩; have n0_ := zR HO194 hb; have n1_ := zR HO200 hb; have n2_ := Aside0.mk (Kd.N_mono (Kd.N_told (Kd.N_told (Kd.N_old (by (with_reducible repeat (first | apply Kd.N_alloc | apply Kd.N_drewN | apply Kd.N_drew)); exact HO206.out) hb) (Kd.R_base ho0)) (Kd.R_base ho1)) (fun _ h_ => h_.1)); have n3_ := zL1 ho0 HB GE173; have n4_ := zL1 ho1 HB GE173; have n5_ := zK BK173 hb; have n6_ := zS1 HB GE173 hb; clear HO194; clear HO200; clear HO206; clear BK173; clear HB; have HO194 := n0_; have HO200 := n1_; have HO206 := n2_; have HO209 := n3_; have HO212 := n4_; have BK173 := n5_; have HB := n6_; clear n0_ n1_ n2_ n3_ n4_ n5_ n6_; (try clear hb); (try clear hb2); (try clear hk); (try clear hi); (try clear ho0); (try clear ho1)) | ((with_reducible refine gate_dst (N := 6) rfl ?_); (try (refine gate_guard (by rfl) ?_; dsimp only)); refine box_event ?hg (N := 6) ?hd (cs := #[.slice none 0 0, .slice none 0 0]) (t := 44) ?hr ?_; (case hd => rfl); (case hg => rfl); (case hr => first | (go_simp; done) | (go_simp; rfl)); intro gb214 hg w70 hbox hb; have n0_ := zR HO194 hb; have n1_ := zR HO200 hb; have n2_ := Aside0.mk (Kd.N_below (Kd.N_elderB (by (with_reducible repeat (first | apply Kd.N_alloc | apply Kd.N_drewN | apply Kd.N_drew)); exact HO206.out) gb214 (Nat.le_of_eq hg.symm)) hb); have n3_ := zR HO209 hb; have n4_ := zR HO212 hb; have n5_ := zK BK173 hb; have n6_ := zS1 HB GE173 hb; have n7_ := Aside0.mk (hbox); have n8_ := Aside0.mk ((by rw [hg]; exact (below_size (zb1 HB.out GE173.out)) : w.heap.size ≤ gb214)); have n9_ := Aside0.mk ((by rw [hg]; exact (below_size (zb1 HB.out GE173.out)) : w.heap.size ≤ gb214)); have n10_ := Aside0.mk ((by rw [hg]; exact Nat.ne_of_lt (blk_lt (g := gb173) (o := .cells #[.slice none 0 0, .slice none 0 0] 44 (0, 0)) (zk BK173.out)) : gb173 ≠ gb214)); have n11_ := Aside0.mk ((by rw [hg]; exact Nat.ne_of_gt (blk_lt (g := gb173) (o := .cells #[.slice none 0 0, .slice none 0 0] 44 (0, 0)) (zk BK173.out)) : gb214 ≠ gb173)); clear HO194; clear HO200; clear HO206; clear HO209; clear HO212; clear BK173; clear HB; have HO194 := n0_; have HO200 := n1_; have HO206 := n2_; have HO209 := n3_; have HO212 := n4_; have BK173 := n5_; have HB := n6_; have BK214 := n7_; have GW214 := n8_; have GE214 := n9_; have NB173_214 := n10_; have NB214_173 := n11_; clear n0_ n1_ n2_ n3_ n4_ n5_ n6_ n7_ n8_ n9_ n10_ n11_; clear hb hbox hg; obtain ⟨Ao71, co71, eo71⟩ := Kd.R_slice HO209.out; subst eo71; have hnb72 := NB214_173.out; have hnc72 := NB173_214.out; have hcz73_0 : w70.cell? ⟨gb214, 0, none⟩ = some (.slice none 0 0) := (blk_cell BK214.out 0).trans rfl; have hcz73_1 : w70.cell? ⟨gb214, 1, none⟩ = some (.slice none 0 0) := (blk_cell BK214.out 1).trans rfl; have hfz73_0 := blk_frozen BK214.out 0; have hfz73_1 := blk_frozen BK214.out 1; obtain ⟨Ao74, co74, eo74⟩ := Kd.R_slice HO212.out; subst eo74) | ((with_reducible refine gate_callee (f := 49) rfl ?_); refine goesL_ (some 54) rfl rfl Tryd.func49 (by kernel_rfl) rfl #[.int .i64 (l0.length : Int)] rfl zm ?_; (with_reducible refine (tree_Split.calls kj2 (l0.length : Int) t215 _ A51.out).mono ?_); rintro e w' ⟨rfl, ⟨nd, rfl⟩⟩; refine ⟨_, rfl, ?_⟩))
          have n0_ : Aside0 (Kd.R Kd.string 9 ((w70.setCell ⟨gb214, 0, none⟩ (.slice Ao71 t207.length co71)).setCell ⟨gb214, 1, none⟩ (.slice Ao74 t210.length co74)) w.heap.size (fun k_ => some k_ ≠ (.slice Ao62 t198.length co62 : Value).ownBlock) (.slice Ao59 t192.length co59) t192) := ⟨by (with_reducible repeat (first | apply Kd.R_alloc | apply Kd.R_drewN | apply Kd.R_drew)); exact Kd.R_mono (Kd.R_far (p := ⟨gb214, 1, none⟩) (Kd.R_far (p := ⟨gb214, 0, none⟩) (Kd.R_types HO194.out BK214.out (by decide)) (fun _ hk => hk.2) (.slice Ao71 t207.length co71)) (fun _ hk => hk.2) (.slice Ao74 t210.length co74)) (fun _ hk => hk.1.2)⟩
          have n1_ : Aside0 (Kd.R Kd.string 9 ((w70.setCell ⟨gb214, 0, none⟩ (.slice Ao71 t207.length co71)).setCell ⟨gb214, 1, none⟩ (.slice Ao74 t210.length co74)) w.heap.size (fun k_ => some k_ ≠ (.slice Ao59 t192.length co59 : Value).ownBlock) (.slice Ao62 t198.length co62) t198) := ⟨by (with_reducible repeat (first | apply Kd.R_alloc | apply Kd.R_drewN | apply Kd.R_drew)); exact Kd.R_mono (Kd.R_far (p := ⟨gb214, 1, none⟩) (Kd.R_far (p := ⟨gb214, 0, none⟩) (Kd.R_types HO200.out BK214.out (by decide)) (fun _ hk => hk.2) (.slice Ao71 t207.length co71)) (fun _ hk => hk.2) (.slice Ao74 t210.length co74)) (fun _ hk => hk.1.2)⟩
          have n2_ : Aside0 (Kd.N k77 77 ((w70.setCell ⟨gb214, 0, none⟩ (.slice Ao71 t207.length co71)).setCell ⟨gb214, 1, none⟩ (.slice Ao74 t210.length co74)) w.heap.size (fun k_ => some k_ ≠ (.slice Ao59 t192.length co59 : Value).ownBlock ∧ some k_ ≠ (.slice Ao62 t198.length co62 : Value).ownBlock ∧ some k_ ≠ (.slice Ao71 t207.length co71 : Value).ownBlock ∧ some k_ ≠ (.slice Ao74 t210.length co74 : Value).ownBlock ∧ k_ ≠ gb173 ∧ k_ ≠ gb214) (.slice Ao68 y204.length co68) y204) := ⟨by (with_reducible repeat (first | apply Kd.N_alloc | apply Kd.N_drewN | apply Kd.N_drew)); exact Kd.N_mono (Kd.N_far (p := ⟨gb214, 1, none⟩) (Kd.N_far (p := ⟨gb214, 0, none⟩) (Kd.N_mono HO206.out (fun k_ hk => (⟨hk, hk.2⟩ : _ ∧ k_ ≠ gb214))) (fun _ hk => hk.2) (.slice Ao71 t207.length co71)) (fun _ hk => hk.2) (.slice Ao74 t210.length co74)) (fun _ hk => ⟨hk.1.1.1.1.1, ⟨hk.1.1.1.1.2.1, ⟨hk.1.1.1.2, ⟨hk.1.1.2, ⟨hk.1.1.1.1.2.2, hk.1.2⟩⟩⟩⟩⟩)⟩
          have n3_ : Aside0 (Kd.R (Kd.int .u8) 5 ((w70.setCell ⟨gb214, 0, none⟩ (.slice Ao71 t207.length co71)).setCell ⟨gb214, 1, none⟩ (.slice Ao74 t210.length co74)) w.heap.size (fun k_ => some k_ ≠ (.slice Ao74 t210.length co74 : Value).ownBlock) (.slice Ao71 t207.length co71) t207) := ⟨by (with_reducible repeat (first | apply Kd.R_alloc | apply Kd.R_drewN | apply Kd.R_drew)); exact Kd.R_mono (Kd.R_far (p := ⟨gb214, 1, none⟩) (Kd.R_far (p := ⟨gb214, 0, none⟩) (Kd.R_types HO209.out BK214.out (by decide)) (fun _ hk => hk.2) (.slice Ao71 t207.length co71)) (fun _ hk => hk.2) (.slice Ao74 t210.length co74)) (fun _ hk => hk.1)⟩
          have n4_ : Aside0 (Kd.R (Kd.int .u8) 5 ((w70.setCell ⟨gb214, 0, none⟩ (.slice Ao71 t207.length co71)).setCell ⟨gb214, 1, none⟩ (.slice Ao74 t210.length co74)) w.heap.size (fun k_ => some k_ ≠ (.slice Ao71 t207.length co71 : Value).ownBlock) (.slice Ao74 t210.length co74) t210) := ⟨by (with_reducible repeat (first | apply Kd.R_alloc | apply Kd.R_drewN | apply Kd.R_drew)); exact Kd.R_mono (Kd.R_far (p := ⟨gb214, 1, none⟩) (Kd.R_far (p := ⟨gb214, 0, none⟩) (Kd.R_types HO212.out BK214.out (by decide)) (fun _ hk => hk.2) (.slice Ao71 t207.length co71)) (fun _ hk => hk.2) (.slice Ao74 t210.length co74)) (fun _ hk => hk.1)⟩
          have n5_ : Aside0 (((w70.setCell ⟨gb214, 0, none⟩ (.slice Ao71 t207.length co71)).setCell ⟨gb214, 1, none⟩ (.slice Ao74 t210.length co74)).heap[gb173]? = some (.cells #[.slice none 0 0, .slice none 0 0] 44 (0, 0))) := ⟨by (with_reducible repeat (first | refine blk_drewN ?_ _ | refine blk_drew ?_ | refine blk_alloc ?_ _)); refine blk_far ?_ NB173_214.out _; (with_reducible repeat (first | refine blk_drewN ?_ _ | refine blk_drew ?_ | refine blk_alloc ?_ _)); refine blk_far ?_ NB173_214.out _; (with_reducible repeat (first | refine blk_drewN ?_ _ | refine blk_drew ?_ | refine blk_alloc ?_ _)); exact BK173.out⟩
          have n6_ : Aside0 (((w70.setCell ⟨gb214, 0, none⟩ (.slice Ao71 t207.length co71)).setCell ⟨gb214, 1, none⟩ (.slice Ao74 t210.length co74)).heap[gb214]? = some (.cells #[.slice Ao71 t207.length co71, .slice Ao74 t210.length co74] 44 (0, 0))) := ⟨by (with_reducible repeat (first | refine blk_drewN ?_ _ | refine blk_drew ?_ | refine blk_alloc ?_ _)); refine blk_put (cs := #[.slice Ao71 t207.length co71, .slice none 0 0]) ?_ 1 _ rfl; (with_reducible repeat (first | refine blk_drewN ?_ _ | refine blk_drew ?_ | refine blk_alloc ?_ _)); refine blk_put (cs := #[.slice none 0 0, .slice none 0 0]) ?_ 0 _ rfl; (with_reducible repeat (first | refine blk_drewN ?_ _ | refine blk_drew ?_ | refine blk_alloc ?_ _)); exact BK214.out⟩
          have n7_ : Aside0 (Below w.heap.size w ((w70.setCell ⟨gb214, 0, none⟩ (.slice Ao71 t207.length co71)).setCell ⟨gb214, 1, none⟩ (.slice Ao74 t210.length co74))) := ⟨by repeat (first | (with_reducible first | exact HB.out | apply below_alloc | apply pw_below_drewN | apply below_drew1 | refine below_set ?_ GE173.out | refine below_set ?_ GE214.out) | exact HB.out)⟩
          (try clear HO194)
          (try clear HO200)
          (try clear HO206)
          (try clear HO209)
          (try clear HO212)
          (try clear BK173)
          (try clear BK214)
          (try clear HB)
          generalize ((w70.setCell ⟨gb214, 0, none⟩ (.slice Ao71 t207.length co71)).setCell ⟨gb214, 1, none⟩ (.slice Ao74 t210.length co74)) = w75 at n0_ n1_ n2_ n3_ n4_ n5_ n6_ n7_ ⊢
          have HO194 := n0_
          have HO200 := n1_
          have HO206 := n2_
          have HO209 := n3_
          have HO212 := n4_
          have BK173 := n5_
          have BK214 := n6_
          have HB := n7_
          clear n0_ n1_ n2_ n3_ n4_ n5_ n6_ n7_
          (try (rw [drewN_self w75]; generalize hq_ : World.drewN w75 _ = w75; have n0_ : Aside0 (Kd.R Kd.string 9 w75 w.heap.size (fun k_ => some k_ ≠ (.slice Ao62 t198.length co62 : Value).ownBlock) (.slice Ao59 t192.length co59) t192) := ⟨by rw [← hq_]; exact (zr HO194.out)⟩; have n1_ : Aside0 (Kd.R Kd.string 9 w75 w.heap.size (fun k_ => some k_ ≠ (.slice Ao59 t192.length co59 : Value).ownBlock) (.slice Ao62 t198.length co62) t198) := ⟨by rw [← hq_]; exact (zr HO200.out)⟩; have n2_ : Aside0 (Kd.N k77 77 w75 w.heap.size (fun k_ => some k_ ≠ (.slice Ao59 t192.length co59 : Value).ownBlock ∧ some k_ ≠ (.slice Ao62 t198.length co62 : Value).ownBlock ∧ some k_ ≠ (.slice Ao71 t207.length co71 : Value).ownBlock ∧ some k_ ≠ (.slice Ao74 t210.length co74 : Value).ownBlock ∧ k_ ≠ gb173 ∧ k_ ≠ gb214) (.slice Ao68 y204.length co68) y204) := ⟨by rw [← hq_]; exact (by (with_reducible repeat (first | apply Kd.N_alloc | apply Kd.N_drewN | apply Kd.N_drew)); exact HO206.out)⟩; have n3_ : Aside0 (Kd.R (Kd.int .u8) 5 w75 w.heap.size (fun k_ => some k_ ≠ (.slice Ao74 t210.length co74 : Value).ownBlock) (.slice Ao71 t207.length co71) t207) := ⟨by rw [← hq_]; exact (zr HO209.out)⟩; have n4_ : Aside0 (Kd.R (Kd.int .u8) 5 w75 w.heap.size (fun k_ => some k_ ≠ (.slice Ao71 t207.length co71 : Value).ownBlock) (.slice Ao74 t210.length co74) t210) := ⟨by rw [← hq_]; exact (zr HO212.out)⟩; have n5_ : Aside0 (w75.heap[gb173]? = some (.cells #[.slice none 0 0, .slice none 0 0] 44 (0, 0))) := ⟨by rw [← hq_]; exact (zk BK173.out)⟩; have n6_ : Aside0 (w75.heap[gb214]? = some (.cells #[.slice Ao71 t207.length co71, .slice Ao74 t210.length co74] 44 (0, 0))) := ⟨by rw [← hq_]; exact (zk BK214.out)⟩; have n7_ : Aside0 (Below w.heap.size w w75) := ⟨by rw [← hq_]; exact (zb2 HB.out GE173.out GE214.out)⟩; clear HO194 HO200 HO206 HO209 HO212 BK173 BK214 HB hq_; have HO194 := n0_; have HO200 := n1_; have HO206 := n2_; have HO209 := n3_; have HO212 := n4_; have BK173 := n5_; have BK214 := n6_; have HB := n7_; clear n0_ n1_ n2_ n3_ n4_ n5_ n6_ n7_))
          have n0_ := Aside0.mk (Kd.R_drew HO194.out)
          have n1_ := Aside0.mk (Kd.R_drew HO200.out)
          have n2_ := Aside0.mk (Kd.N_drew HO206.out)
          have n3_ := Aside0.mk (Kd.R_drew HO209.out)
          have n4_ := Aside0.mk (Kd.R_drew HO212.out)
          have n5_ := Aside0.mk (blk_drew BK173.out)
          have n6_ := Aside0.mk (blk_drew BK214.out)
          have n7_ := Aside0.mk (below_drew1 HB.out)
          clear HO194
          clear HO200
          clear HO206
          clear HO209
          clear HO212
          clear BK173
          clear BK214
          clear HB
          have HO194 := n0_
          have HO200 := n1_
          have HO206 := n2_
          have HO209 := n3_
          have HO212 := n4_
          have BK173 := n5_
          have BK214 := n6_
          have HB := n7_
          clear n0_ n1_ n2_ n3_ n4_ n5_ n6_ n7_
          have q77 : (t215 : Int) ≤ ((l0.length : Int) : Int) := of_decide_eq_true (by first | (with_reducible assumption) | assumption)
          obtain ⟨i077, hi077, _, hsz77, _⟩ := info_parts info41
          have hroom77 : l0.length ≤ c0 := HC0.out
          have hC77 : Kd.C (Kd.slice 5 (Kd.int .u8)) _ A0 l0.length l0 := HR0.out
          have hcut77 := cut_to (P := Tryd.prog) 34 41 .i64 Tryd.underlying34 hi077 A0 l0.length c0 t215 (of_decide_eq_true (by first | (with_reducible assumption) | assumption)) q77 hroom77
          have hr77 := Kd.C_take (m := (t215 : Int).toNat) hC77 (by omega)
          have hy77 : y216.length = (t215 : Int).toNat := (by rw [Ny216.out, List.length_take]; omega)
          rw [← Ny216.out] at hr77
          rw [← hy77] at hcut77
          have HR219 := Aside0.mk hr77
          have HC219 := Aside0.mk (show y216.length ≤ c0 from by omega)
          clear hr77 hC77 hroom77 hi077 hsz77
          have KY77 := Aside0.mk hy77
          clear hy77
          replace q77 := eq_true q77
          have q78 : (t215 : Int) ≤ ((l1.length : Int) : Int) := of_decide_eq_true (by first | (with_reducible assumption) | assumption)
          obtain ⟨i078, hi078, _, hsz78, _⟩ := info_parts info41
          have hroom78 : l1.length ≤ c1 := HC1.out
          have hC78 : Kd.C (Kd.slice 5 (Kd.int .u8)) _ A1 l1.length l1 := HR1.out
          have hcut78 := cut_to (P := Tryd.prog) 34 41 .i64 Tryd.underlying34 hi078 A1 l1.length c1 t215 (of_decide_eq_true (by first | (with_reducible assumption) | assumption)) q78 hroom78
          have hr78 := Kd.C_take (m := (t215 : Int).toNat) hC78 (by omega)
          have hy78 : y220.length = (t215 : Int).toNat := (by rw [Ny220.out, List.length_take]; omega)
          rw [← Ny220.out] at hr78
          rw [← hy78] at hcut78
          have HR223 := Aside0.mk hr78
          have HC223 := Aside0.mk (show y220.length ≤ c1 from by omega)
          clear hr78 hC78 hroom78 hi078 hsz78
          have KY78 := Aside0.mk hy78
          clear hy78
          replace q78 := eq_true q78
          refine start_ (n := 13) (S := fun w' => True) (ds := []) #[false, false, false, false, false, false, false, false, false, false, false, false, false] (by kernel_rfl) rfl rfl trivial (fun hHeld => ?_); refine with_tabW clash_Two.tab9 clash_Two.bits9 (fun HT_ HW_ => ?_)
          generalize w75.drew = w76 at HO194 HO200 HO206 HO209 HO212 BK173 BK214 HB HR219 HR223 hHeld ⊢
          refine HBulk.bulkT (fuel := 7) HT_.out HW_.out [(0, some 56, false), (1, some 57, false), (2, some 58, false), (3, some 59, false), (4, some 60, false), (5, some 61, false)] #[true, true, true, true, true, true, false, false, false, false, false, false, false] (a' := ?_) (by kernel_rfl) rfl hHeld ?_ ?_
          rotate_left
          ·repeat
            refine HBulk.RunsM.cons (v := ?_) (a1 := ?_) rfl rfl (fun _ _ _ h => h) (by rfl) ?_ ?_ ?_
            rotate_left
            ·intro w' hS_
             go_simp
             with_reducible rfl
            rotate_left
            ·simp only [Act.put, List.setIfInBounds_toArray, List.set_cons_zero, List.set_cons_succ, i64_w, i32_w]
             rfl
           exact HBulk.RunsM.nil
          refine join_ (σ := Value × Value × Nat) 2 #[true, true, true, true, true, true, true, true, true, true, true, false, false] (fun s_ => [(62, .tuple #[.agg #[s_.1, s_.2.1], .bool true]), (9, .pointer (some ⟨s_.2.2, 0, none⟩)), (55, .tuple #[.agg #[s_.1, s_.2.1], .bool true]), (63, .agg #[s_.1, s_.2.1]), (64, .bool true)]) (fun s_ w' => (Kd.R Kd.string 9 w' w.heap.size (fun k_ => some k_ ≠ (.slice Ao62 t198.length co62 : Value).ownBlock) (.slice Ao59 t192.length co59) t192) ∧ (Kd.R Kd.string 9 w' w.heap.size (fun k_ => some k_ ≠ (.slice Ao59 t192.length co59 : Value).ownBlock) (.slice Ao62 t198.length co62) t198) ∧ (Kd.N k77 77 w' w.heap.size (fun k_ => some k_ ≠ (.slice Ao59 t192.length co59 : Value).ownBlock ∧ some k_ ≠ (.slice Ao62 t198.length co62 : Value).ownBlock ∧ some k_ ≠ (.slice Ao71 t207.length co71 : Value).ownBlock ∧ some k_ ≠ (.slice Ao74 t210.length co74 : Value).ownBlock ∧ some k_ ≠ (s_.1 : Value).ownBlock ∧ some k_ ≠ (s_.2.1 : Value).ownBlock ∧ k_ ≠ gb173 ∧ k_ ≠ gb214 ∧ k_ ≠ s_.2.2) (.slice Ao68 y204.length co68) y204) ∧ (Kd.R (Kd.int .u8) 5 w' w.heap.size (fun k_ => some k_ ≠ (.slice Ao74 t210.length co74 : Value).ownBlock ∧ some k_ ≠ (s_.1 : Value).ownBlock ∧ some k_ ≠ (s_.2.1 : Value).ownBlock) (.slice Ao71 t207.length co71) t207) ∧ (Kd.R (Kd.int .u8) 5 w' w.heap.size (fun k_ => some k_ ≠ (.slice Ao71 t207.length co71 : Value).ownBlock ∧ some k_ ≠ (s_.1 : Value).ownBlock ∧ some k_ ≠ (s_.2.1 : Value).ownBlock) (.slice Ao74 t210.length co74) t210) ∧ (Kd.R (Kd.int .u8) 5 w' w.heap.size (fun k_ => some k_ ≠ (.slice Ao71 t207.length co71 : Value).ownBlock ∧ some k_ ≠ (.slice Ao74 t210.length co74 : Value).ownBlock ∧ some k_ ≠ (s_.2.1 : Value).ownBlock) s_.1 t224) ∧ (Kd.R (Kd.int .u8) 5 w' w.heap.size (fun k_ => some k_ ≠ (.slice Ao71 t207.length co71 : Value).ownBlock ∧ some k_ ≠ (.slice Ao74 t210.length co74 : Value).ownBlock ∧ some k_ ≠ (s_.1 : Value).ownBlock) s_.2.1 t227) ∧ (w'.heap[gb173]? = some (.cells #[.slice none 0 0, .slice none 0 0] 44 (0, 0))) ∧ (w'.heap[gb214]? = some (.cells #[.slice Ao71 t207.length co71, .slice Ao74 t210.length co74] 44 (0, 0))) ∧ (w'.heap[s_.2.2]? = some (.cells #[.slice none 0 0, .slice none 0 0] 44 (0, 0))) ∧ (w.heap.size ≤ s_.2.2) ∧ (w.heap.size ≤ s_.2.2) ∧ (gb173 ≠ s_.2.2) ∧ (s_.2.2 ≠ gb173) ∧ (gb214 ≠ s_.2.2) ∧ (s_.2.2 ≠ gb214) ∧ (Below w.heap.size w w')) ?_ ?_
          rotate_left
          ·intro hCont
           refine two_ (i := 6) (j := 10) (Ni := some 62) (Nj := some 9) #[true, true, true, true, true, true, true, false, false, false, false, false, false] #[true, true, true, true, true, true, false, false, false, false, true, false, false] rfl rfl rfl rfl (two_of HT_.out (by kernel_rfl)) (by decide) (by decide) (fun K hK => ?_) (fun K hK => ?_)
           ·skip
            refine goes_ Tryd.func37 (by kernel_rfl) rfl #[.slice A0 y216.length c0, .slice A1 y220.length c1] (by rfl) rfl rfl zm ?_
            with_reducible refine (ih kj2 (by have := HJ2.out; omega) _ _ y216 _ _ y220 t224 t227 true _ ?side5 ?side1 ?side2 ?side3 ?side4 A56.out).mono ?_
            (case side1 => exact zc (Kd.C_below HR219.out HB.out))
            (case side2 => exact HC219.out)
            (case side3 => exact zc (Kd.C_below HR223.out HB.out))
            (case side4 => exact HC223.out)
            (case side5 => exact gw_step hG_ (zb2 HB.out GE173.out GE214.out))
            rintro e w79 ⟨v225, v228, rfl, ho0, ho1, hb⟩
            refine ⟨_, rfl, ?_⟩
            have n0_ := zR HO194 hb
            have n1_ := zR HO200 hb
            have n2_ := Aside0.mk (Kd.N_mono (Kd.N_told (Kd.N_told (Kd.N_old (by (with_reducible repeat (first | apply Kd.N_alloc | apply Kd.N_drewN | apply Kd.N_drew)); exact HO206.out) hb) (Kd.R_base ho0)) (Kd.R_base ho1)) (fun _ h_ => h_.1))
            have n3_ := Aside0.mk (Kd.R_mono (Kd.R_told (Kd.R_told (Kd.R_old (zr HO209.out) hb) (Kd.R_base ho0)) (Kd.R_base ho1)) (fun _ h_ => h_.1))
            have n4_ := Aside0.mk (Kd.R_mono (Kd.R_told (Kd.R_told (Kd.R_old (zr HO212.out) hb) (Kd.R_base ho0)) (Kd.R_base ho1)) (fun _ h_ => h_.1))
            have n5_ := Aside0.mk (Kd.R_lower (Kd.R_new' (Kd.R_new' ho0 (Kd.R_lt (zr HO209.out))) (Kd.R_lt (zr HO212.out))) (below_size (zb2 HB.out GE173.out GE214.out)))
            have n6_ := Aside0.mk (Kd.R_lower (Kd.R_new' (Kd.R_new' ho1 (Kd.R_lt (zr HO209.out))) (Kd.R_lt (zr HO212.out))) (below_size (zb2 HB.out GE173.out GE214.out)))
            have n7_ := zK BK173 hb
            have n8_ := zK BK214 hb
            have n9_ := zS2 HB GE173 GE214 hb
            clear HO194
            clear HO200
            clear HO206
            clear HO209
            clear HO212
            clear BK173
            clear BK214
            clear HB
            have HO194 := n0_
            have HO200 := n1_
            have HO206 := n2_
            have HO209 := n3_
            have HO212 := n4_
            have HO226 := n5_
            have HO229 := n6_
            have BK173 := n7_
            have BK214 := n8_
            have HB := n9_
            clear n0_ n1_ n2_ n3_ n4_ n5_ n6_ n7_ n8_ n9_
            (try clear hb)
            (try clear hb2)
            (try clear hk)
            (try clear hi)
            (try clear ho0)
            (try clear ho1)
            refine hK.out _ _ trivial (fun hHeld => ?_)
            clear hK K
            refine norm_ (a' := ?_) ?_ ?_
            rotate_left
            ·show Act.put _ (some 62) _ = _
             simp only [Act.put, List.setIfInBounds_toArray, List.set_cons_zero, List.set_cons_succ, i64_w, i32_w]
             rfl
            refine HBulk.bulkT (fuel := 3) HT_.out HW_.out [(7, some 55, false), (8, some 63, false), (9, some 64, false)] #[true, true, true, true, true, true, true, true, true, true, false, false, false] (a' := ?_) (by kernel_rfl) rfl hHeld ?_ ?_
            rotate_left
            ·repeat
              refine HBulk.RunsM.cons (v := ?_) (a1 := ?_) rfl rfl (fun _ _ _ h => h) (by rfl) ?_ ?_ ?_
              rotate_left
              ·intro w' hS_
               go_simp
               with_reducible rfl
              rotate_left
              ·simp only [Act.put, List.setIfInBounds_toArray, List.set_cons_zero, List.set_cons_succ, i64_w, i32_w]
               rfl
             exact HBulk.RunsM.nil
            refine one_ (i := 10) (N := some 9) #[true, true, true, true, true, true, true, true, true, true, true, false, false] rfl rfl (one_of HT_.out (by kernel_rfl)) (by decide) (fun K hK => ?_)
            refine box_step ?hg (N := 9) ?hd (cs := #[.slice none 0 0, .slice none 0 0]) (t := 44) ?hr ?_; (case hd => rfl); (case hg => rfl); (case hr => first | (go_simp; done) | (go_simp; rfl))
            intro gb231 hg w80 hbox hb
            have n0_ := zR HO194 hb
            have n1_ := zR HO200 hb
            have n2_ := Aside0.mk (Kd.N_below (Kd.N_elderB (by (with_reducible repeat (first | apply Kd.N_alloc | apply Kd.N_drewN | apply Kd.N_drew)); exact HO206.out) gb231 (Nat.le_of_eq hg.symm)) hb)
            have n3_ := zR HO209 hb
            have n4_ := zR HO212 hb
            have n5_ := zR HO226 hb
            have n6_ := zR HO229 hb
            have n7_ := zK BK173 hb
            have n8_ := zK BK214 hb
            have n9_ := zS2 HB GE173 GE214 hb
            have n10_ := Aside0.mk (hbox)
            have n11_ := Aside0.mk ((by rw [hg]; exact (below_size (zb2 HB.out GE173.out GE214.out)) : w.heap.size ≤ gb231))
            have n12_ := Aside0.mk ((by rw [hg]; exact (below_size (zb2 HB.out GE173.out GE214.out)) : w.heap.size ≤ gb231))
            have n13_ := Aside0.mk ((by rw [hg]; exact Nat.ne_of_lt (blk_lt (g := gb173) (o := .cells #[.slice none 0 0, .slice none 0 0] 44 (0, 0)) (zk BK173.out)) : gb173 ≠ gb231))
            have n14_ := Aside0.mk ((by rw [hg]; exact Nat.ne_of_gt (blk_lt (g := gb173) (o := .cells #[.slice none 0 0, .slice none 0 0] 44 (0, 0)) (zk BK173.out)) : gb231 ≠ gb173))
            have n15_ := Aside0.mk ((by rw [hg]; exact Nat.ne_of_lt (blk_lt (g := gb214) (o := .cells #[.slice Ao71 t207.length co71, .slice Ao74 t210.length co74] 44 (0, 0)) (zk BK214.out)) : gb214 ≠ gb231))
            have n16_ := Aside0.mk ((by rw [hg]; exact Nat.ne_of_gt (blk_lt (g := gb214) (o := .cells #[.slice Ao71 t207.length co71, .slice Ao74 t210.length co74] 44 (0, 0)) (zk BK214.out)) : gb231 ≠ gb214))
            clear HO194
            clear HO200
            clear HO206
            clear HO209
            clear HO212
            clear HO226
            clear HO229
            clear BK173
            clear BK214
            clear HB
            have HO194 := n0_
            have HO200 := n1_
            have HO206 := n2_
            have HO209 := n3_
            have HO212 := n4_
            have HO226 := n5_
            have HO229 := n6_
            have BK173 := n7_
            have BK214 := n8_
            have HB := n9_
            have BK231 := n10_
            have GW231 := n11_
            have GE231 := n12_
            have NB173_231 := n13_
            have NB231_173 := n14_
            have NB214_231 := n15_
            have NB231_214 := n16_
            clear n0_ n1_ n2_ n3_ n4_ n5_ n6_ n7_ n8_ n9_ n10_ n11_ n12_ n13_ n14_ n15_ n16_
            clear hb hbox hg
            refine hK.out _ _ trivial (fun hHeld => ?_)
            clear hK K
            refine norm_ (a' := ?_) ?_ ?_
            rotate_left
            ·show Act.put _ (some 9) _ = _
             simp only [Act.put, List.setIfInBounds_toArray, List.set_cons_zero, List.set_cons_succ, i64_w, i32_w]
             rfl
            exact norm_ (by simp only [putAll, Act.put, List.setIfInBounds_toArray, List.set_cons_zero, List.set_cons_succ]) (hCont (v225, v228, gb231) _ ⟨(zr HO194.out), (zr HO200.out), (by (with_reducible repeat (first | apply Kd.N_alloc | apply Kd.N_drewN | apply Kd.N_drew)); exact Kd.N_mono HO206.out (fun _ hk => ⟨hk.1.1.1.1, ⟨hk.1.1.1.2.1, ⟨hk.1.1.1.2.2.1, ⟨hk.1.1.1.2.2.2.1, ⟨hk.1.1.2, ⟨hk.1.2, ⟨hk.1.1.1.2.2.2.2.1, ⟨hk.1.1.1.2.2.2.2.2, hk.2⟩⟩⟩⟩⟩⟩⟩⟩)), (by (with_reducible repeat (first | apply Kd.R_alloc | apply Kd.R_drewN | apply Kd.R_drew)); exact Kd.R_mono HO209.out (fun _ hk => ⟨hk.1.1, ⟨hk.1.2, hk.2⟩⟩)), (by (with_reducible repeat (first | apply Kd.R_alloc | apply Kd.R_drewN | apply Kd.R_drew)); exact Kd.R_mono HO212.out (fun _ hk => ⟨hk.1.1, ⟨hk.1.2, hk.2⟩⟩)), (by (with_reducible repeat (first | apply Kd.R_alloc | apply Kd.R_drewN | apply Kd.R_drew)); exact Kd.R_mono HO226.out (fun _ hk => ⟨hk.1.2, ⟨hk.2, hk.1.1⟩⟩)), (by (with_reducible repeat (first | apply Kd.R_alloc | apply Kd.R_drewN | apply Kd.R_drew)); exact Kd.R_mono HO229.out (fun _ hk => ⟨hk.1.2, ⟨hk.2, hk.1.1⟩⟩)), (zk BK173.out), (zk BK214.out), (zk BK231.out), GW231.out, GE231.out, NB173_231.out, NB231_173.out, NB214_231.out, NB231_214.out, (zb3 HB.out GE173.out GE214.out GE231.out)⟩)
           ·skip
            refine box_step ?hg (N := 9) ?hd (cs := #[.slice none 0 0, .slice none 0 0]) (t := 44) ?hr ?_; (case hd => rfl); (case hg => rfl); (case hr => first | (go_simp; done) | (go_simp; rfl))
            intro gb231 hg w79 hbox hb
            have n0_ := zR HO194 hb
            have n1_ := zR HO200 hb
            have n2_ := Aside0.mk (Kd.N_below (Kd.N_elderB (by (with_reducible repeat (first | apply Kd.N_alloc | apply Kd.N_drewN | apply Kd.N_drew)); exact HO206.out) gb231 (Nat.le_of_eq hg.symm)) hb)
            have n3_ := zR HO209 hb
            have n4_ := zR HO212 hb
            have n5_ := zK BK173 hb
            have n6_ := zK BK214 hb
            have n7_ := zS2 HB GE173 GE214 hb
            have n8_ := Aside0.mk (hbox)
            have n9_ := Aside0.mk ((by rw [hg]; exact (below_size (zb2 HB.out GE173.out GE214.out)) : w.heap.size ≤ gb231))
            have n10_ := Aside0.mk ((by rw [hg]; exact (below_size (zb2 HB.out GE173.out GE214.out)) : w.heap.size ≤ gb231))
            have n11_ := Aside0.mk ((by rw [hg]; exact Nat.ne_of_lt (blk_lt (g := gb173) (o := .cells #[.slice none 0 0, .slice none 0 0] 44 (0, 0)) (zk BK173.out)) : gb173 ≠ gb231))
            have n12_ := Aside0.mk ((by rw [hg]; exact Nat.ne_of_gt (blk_lt (g := gb173) (o := .cells #[.slice none 0 0, .slice none 0 0] 44 (0, 0)) (zk BK173.out)) : gb231 ≠ gb173))
            have n13_ := Aside0.mk ((by rw [hg]; exact Nat.ne_of_lt (blk_lt (g := gb214) (o := .cells #[.slice Ao71 t207.length co71, .slice Ao74 t210.length co74] 44 (0, 0)) (zk BK214.out)) : gb214 ≠ gb231))
            have n14_ := Aside0.mk ((by rw [hg]; exact Nat.ne_of_gt (blk_lt (g := gb214) (o := .cells #[.slice Ao71 t207.length co71, .slice Ao74 t210.length co74] 44 (0, 0)) (zk BK214.out)) : gb231 ≠ gb214))
            clear HO194
            clear HO200
            clear HO206
            clear HO209
            clear HO212
            clear BK173
            clear BK214
            clear HB
            have HO194 := n0_
            have HO200 := n1_
            have HO206 := n2_
            have HO209 := n3_
            have HO212 := n4_
            have BK173 := n5_
            have BK214 := n6_
            have HB := n7_
            have BK231 := n8_
            have GW231 := n9_
            have GE231 := n10_
            have NB173_231 := n11_
            have NB231_173 := n12_
            have NB214_231 := n13_
            have NB231_214 := n14_
            clear n0_ n1_ n2_ n3_ n4_ n5_ n6_ n7_ n8_ n9_ n10_ n11_ n12_ n13_ n14_
            clear hb hbox hg
            refine hK.out _ _ trivial (fun hHeld => ?_)
            clear hK K
            refine norm_ (a' := ?_) ?_ ?_
            rotate_left
            ·show Act.put _ (some 9) _ = _
             simp only [Act.put, List.setIfInBounds_toArray, List.set_cons_zero, List.set_cons_succ, i64_w, i32_w]
             rfl
            refine one_ (i := 6) (N := some 62) #[true, true, true, true, true, true, true, false, false, false, true, false, false] rfl rfl (one_of HT_.out (by kernel_rfl)) (by decide) (fun K hK => ?_)
            refine goes_ Tryd.func37 (by kernel_rfl) rfl #[.slice A0 y216.length c0, .slice A1 y220.length c1] (by rfl) rfl rfl zm ?_
            with_reducible refine (ih kj2 (by have := HJ2.out; omega) _ _ y216 _ _ y220 t224 t227 true _ ?side5 ?side1 ?side2 ?side3 ?side4 A56.out).mono ?_
            (case side1 => exact zc (Kd.C_below HR219.out HB.out))
            (case side2 => exact HC219.out)
            (case side3 => exact zc (Kd.C_below HR223.out HB.out))
            (case side4 => exact HC223.out)
            (case side5 => exact gw_step hG_ (zb3 HB.out GE173.out GE214.out GE231.out))
            rintro e w80 ⟨v225, v228, rfl, ho0, ho1, hb⟩
            refine ⟨_, rfl, ?_⟩
            have n0_ := zR HO194 hb
            have n1_ := zR HO200 hb
            have n2_ := Aside0.mk (Kd.N_mono (Kd.N_told (Kd.N_told (Kd.N_old (by (with_reducible repeat (first | apply Kd.N_alloc | apply Kd.N_drewN | apply Kd.N_drew)); exact HO206.out) hb) (Kd.R_base ho0)) (Kd.R_base ho1)) (fun _ h_ => h_.1))
            have n3_ := Aside0.mk (Kd.R_mono (Kd.R_told (Kd.R_told (Kd.R_old (zr HO209.out) hb) (Kd.R_base ho0)) (Kd.R_base ho1)) (fun _ h_ => h_.1))
            have n4_ := Aside0.mk (Kd.R_mono (Kd.R_told (Kd.R_told (Kd.R_old (zr HO212.out) hb) (Kd.R_base ho0)) (Kd.R_base ho1)) (fun _ h_ => h_.1))
            have n5_ := Aside0.mk (Kd.R_lower (Kd.R_new' (Kd.R_new' ho0 (Kd.R_lt (zr HO209.out))) (Kd.R_lt (zr HO212.out))) (below_size (zb3 HB.out GE173.out GE214.out GE231.out)))
            have n6_ := Aside0.mk (Kd.R_lower (Kd.R_new' (Kd.R_new' ho1 (Kd.R_lt (zr HO209.out))) (Kd.R_lt (zr HO212.out))) (below_size (zb3 HB.out GE173.out GE214.out GE231.out)))
            have n7_ := zK BK173 hb
            have n8_ := zK BK214 hb
            have n9_ := zK BK231 hb
            have n10_ := Aside0.mk (below_step (zb3 HB.out GE173.out GE214.out GE231.out) hb)
            clear HO194
            clear HO200
            clear HO206
            clear HO209
            clear HO212
            clear BK173
            clear BK214
            clear BK231
            clear HB
            have HO194 := n0_
            have HO200 := n1_
            have HO206 := n2_
            have HO209 := n3_
            have HO212 := n4_
            have HO226 := n5_
            have HO229 := n6_
            have BK173 := n7_
            have BK214 := n8_
            have BK231 := n9_
            have HB := n10_
            clear n0_ n1_ n2_ n3_ n4_ n5_ n6_ n7_ n8_ n9_ n10_
            (try clear hb)
            (try clear hb2)
            (try clear hk)
            (try clear hi)
            (try clear ho0)
            (try clear ho1)
            refine hK.out _ _ trivial (fun hHeld => ?_)
            clear hK K
            refine norm_ (a' := ?_) ?_ ?_
            rotate_left
            ·show Act.put _ (some 62) _ = _
             simp only [Act.put, List.setIfInBounds_toArray, List.set_cons_zero, List.set_cons_succ, i64_w, i32_w]
             rfl
            refine HBulk.bulkT (fuel := 2) HT_.out HW_.out [(7, some 55, false), (8, some 63, false), (9, some 64, false)] #[true, true, true, true, true, true, true, true, true, true, true, false, false] (a' := ?_) (by kernel_rfl) rfl hHeld ?_ ?_
            rotate_left
            ·repeat
              refine HBulk.RunsM.cons (v := ?_) (a1 := ?_) rfl rfl (fun _ _ _ h => h) (by rfl) ?_ ?_ ?_
              rotate_left
              ·intro w' hS_
               go_simp
               with_reducible rfl
              rotate_left
              ·simp only [Act.put, List.setIfInBounds_toArray, List.set_cons_zero, List.set_cons_succ, i64_w, i32_w]
               rfl
             exact HBulk.RunsM.nil
            exact norm_ (by simp only [putAll, Act.put, List.setIfInBounds_toArray, List.set_cons_zero, List.set_cons_succ]) (hCont (v225, v228, gb231) _ ⟨(zr HO194.out), (zr HO200.out), (by (with_reducible repeat (first | apply Kd.N_alloc | apply Kd.N_drewN | apply Kd.N_drew)); exact Kd.N_mono HO206.out (fun _ hk => ⟨hk.1.1.1.1, ⟨hk.1.1.1.2.1, ⟨hk.1.1.1.2.2.1, ⟨hk.1.1.1.2.2.2.1, ⟨hk.1.2, ⟨hk.2, ⟨hk.1.1.1.2.2.2.2.1, ⟨hk.1.1.1.2.2.2.2.2, hk.1.1.2⟩⟩⟩⟩⟩⟩⟩⟩)), (by (with_reducible repeat (first | apply Kd.R_alloc | apply Kd.R_drewN | apply Kd.R_drew)); exact Kd.R_mono HO209.out (fun _ hk => ⟨hk.1.1, ⟨hk.1.2, hk.2⟩⟩)), (by (with_reducible repeat (first | apply Kd.R_alloc | apply Kd.R_drewN | apply Kd.R_drew)); exact Kd.R_mono HO212.out (fun _ hk => ⟨hk.1.1, ⟨hk.1.2, hk.2⟩⟩)), (by (with_reducible repeat (first | apply Kd.R_alloc | apply Kd.R_drewN | apply Kd.R_drew)); exact Kd.R_mono HO226.out (fun _ hk => ⟨hk.1.2, ⟨hk.2, hk.1.1⟩⟩)), (by (with_reducible repeat (first | apply Kd.R_alloc | apply Kd.R_drewN | apply Kd.R_drew)); exact Kd.R_mono HO229.out (fun _ hk => ⟨hk.1.2, ⟨hk.2, hk.1.1⟩⟩)), (zk BK173.out), (zk BK214.out), (zk BK231.out), GW231.out, GE231.out, NB173_231.out, NB231_173.out, NB214_231.out, NB231_214.out, (zb3 HB.out GE173.out GE214.out GE231.out)⟩)
          rintro ⟨v225, v228, gb231⟩ w81 ⟨h0_, h1_, h2_, h3_, h4_, h5_, h6_, h7_, h8_, h9_, h10_, h11_, h12_, h13_, h14_, h15_, h16_⟩
          have n0_ : Aside0 (Kd.R Kd.string 9 w81 w.heap.size (fun k_ => some k_ ≠ (.slice Ao62 t198.length co62 : Value).ownBlock) (.slice Ao59 t192.length co59) t192) := ⟨h0_⟩
          have n1_ : Aside0 (Kd.R Kd.string 9 w81 w.heap.size (fun k_ => some k_ ≠ (.slice Ao59 t192.length co59 : Value).ownBlock) (.slice Ao62 t198.length co62) t198) := ⟨h1_⟩
          have n2_ : Aside0 (Kd.N k77 77 w81 w.heap.size (fun k_ => some k_ ≠ (.slice Ao59 t192.length co59 : Value).ownBlock ∧ some k_ ≠ (.slice Ao62 t198.length co62 : Value).ownBlock ∧ some k_ ≠ (.slice Ao71 t207.length co71 : Value).ownBlock ∧ some k_ ≠ (.slice Ao74 t210.length co74 : Value).ownBlock ∧ some k_ ≠ (v225 : Value).ownBlock ∧ some k_ ≠ (v228 : Value).ownBlock ∧ k_ ≠ gb173 ∧ k_ ≠ gb214 ∧ k_ ≠ gb231) (.slice Ao68 y204.length co68) y204) := ⟨h2_⟩
          have n3_ : Aside0 (Kd.R (Kd.int .u8) 5 w81 w.heap.size (fun k_ => some k_ ≠ (.slice Ao74 t210.length co74 : Value).ownBlock ∧ some k_ ≠ (v225 : Value).ownBlock ∧ some k_ ≠ (v228 : Value).ownBlock) (.slice Ao71 t207.length co71) t207) := ⟨h3_⟩
          have n4_ : Aside0 (Kd.R (Kd.int .u8) 5 w81 w.heap.size (fun k_ => some k_ ≠ (.slice Ao71 t207.length co71 : Value).ownBlock ∧ some k_ ≠ (v225 : Value).ownBlock ∧ some k_ ≠ (v228 : Value).ownBlock) (.slice Ao74 t210.length co74) t210) := ⟨h4_⟩
          have n5_ : Aside0 (Kd.R (Kd.int .u8) 5 w81 w.heap.size (fun k_ => some k_ ≠ (.slice Ao71 t207.length co71 : Value).ownBlock ∧ some k_ ≠ (.slice Ao74 t210.length co74 : Value).ownBlock ∧ some k_ ≠ (v228 : Value).ownBlock) v225 t224) := ⟨h5_⟩
          have n6_ : Aside0 (Kd.R (Kd.int .u8) 5 w81 w.heap.size (fun k_ => some k_ ≠ (.slice Ao71 t207.length co71 : Value).ownBlock ∧ some k_ ≠ (.slice Ao74 t210.length co74 : Value).ownBlock ∧ some k_ ≠ (v225 : Value).ownBlock) v228 t227) := ⟨h6_⟩
          have n7_ : Aside0 (w81.heap[gb173]? = some (.cells #[.slice none 0 0, .slice none 0 0] 44 (0, 0))) := ⟨h7_⟩
          have n8_ : Aside0 (w81.heap[gb214]? = some (.cells #[.slice Ao71 t207.length co71, .slice Ao74 t210.length co74] 44 (0, 0))) := ⟨h8_⟩
          have n9_ : Aside0 (w81.heap[gb231]? = some (.cells #[.slice none 0 0, .slice none 0 0] 44 (0, 0))) := ⟨h9_⟩
          have n10_ : Aside0 (w.heap.size ≤ gb231) := ⟨h10_⟩
          have n11_ : Aside0 (w.heap.size ≤ gb231) := ⟨h11_⟩
          have n12_ : Aside0 (gb173 ≠ gb231) := ⟨h12_⟩
          have n13_ : Aside0 (gb231 ≠ gb173) := ⟨h13_⟩
          have n14_ : Aside0 (gb214 ≠ gb231) := ⟨h14_⟩
          have n15_ : Aside0 (gb231 ≠ gb214) := ⟨h15_⟩
          have n16_ : Aside0 (Below w.heap.size w w81) := ⟨h16_⟩
          clear HO194
          clear HO200
          clear HO206
          clear HO209
          clear HO212
          clear BK173
          clear BK214
          clear HB
          clear h0_ h1_ h2_ h3_ h4_ h5_ h6_ h7_ h8_ h9_ h10_ h11_ h12_ h13_ h14_ h15_ h16_
          have HO194 := n0_
          have HO200 := n1_
          have HO206 := n2_
          have HO209 := n3_
          have HO212 := n4_
          have HO226 := n5_
          have HO229 := n6_
          have BK173 := n7_
          have BK214 := n8_
          have BK231 := n9_
          have GW231 := n10_
          have GE231 := n11_
          have NB173_231 := n12_
          have NB231_173 := n13_
          have NB214_231 := n14_
          have NB231_214 := n15_
          have HB := n16_
          clear n0_ n1_ n2_ n3_ n4_ n5_ n6_ n7_ n8_ n9_ n10_ n11_ n12_ n13_ n14_ n15_ n16_
          have hHeld := trivial
          obtain ⟨Ao82, co82, eo82⟩ := Kd.R_slice HO226.out
          (first | subst eo82 | (injection eo82 with f1_ f2_ f3_; have f4_ := f1_.symm; have f5_ := f3_.symm; clear f1_ f2_ f3_; subst f4_; subst f5_))
          obtain ⟨Ao84, co84, eo84⟩ := Kd.R_slice HO229.out
          (first | subst eo84 | (injection eo84 with f1_ f2_ f3_; have f4_ := f1_.symm; have f5_ := f3_.symm; clear f1_ f2_ f3_; subst f4_; subst f5_))
          refine norm_ (a' := ?_) ?_ ?_
          rotate_left
          ·simp only [putAll, Act.put, List.setIfInBounds_toArray, List.set_cons_zero, List.set_cons_succ]
           rfl
          refine one_ (i := 11) (N := none) #[true, true, true, true, true, true, true, true, true, true, true, true, false] rfl rfl (one_of HT_.out (by kernel_rfl)) (by decide) (fun K hK => ?_)
          have hs83 : w81.cell? ⟨gb231, 0, none⟩ = some (.slice none 0 0) := (blk_cell BK231.out 0).trans rfl
          have hfs83 := blk_frozen BK231.out 0
          have hns83_0 := NB173_231.out
          have hns83_1 := NB214_231.out
          have hms83_0 := NB231_173.out
          have hms83_1 := NB231_214.out
          have hs85 : w81.cell? ⟨gb231, 1, none⟩ = some (.slice none 0 0) := (blk_cell BK231.out 1).trans rfl
          have hfs85 := blk_frozen BK231.out 1
          have hns85_0 := NB173_231.out
          have hns85_1 := NB214_231.out
          have hms85_0 := NB231_173.out
          have hms85_1 := NB231_214.out
          refine skip_ (w1 := ?_) (by rfl) rfl ?_ ?_
          rotate_left
          ·go_simp
           rfl
          refine hK.out _ _ trivial (fun hHeld => ?_)
          clear hK K
          refine pure_ (i := 12) (N := some 10) (v := ?_) (a' := ?_) #[true, true, true, true, true, true, true, true, true, true, true, true, true] rfl rfl (any_of HT_.out (by kernel_rfl)) (fun _ _ _ h => h) (Or.inl ⟨by rfl, ?_⟩) ?_ ?_
          rotate_left
          ·intro w'
           go_simp
           with_reducible rfl
          rotate_left
          ·simp only [Act.put, List.setIfInBounds_toArray, List.set_cons_zero, List.set_cons_succ, i64_w, i32_w]
           rfl
          refine done_ (done_of HT_.out (by kernel_rfl)) ?_
          have hnb86 := NB231_173.out
          have hnc86 := NB173_231.out
          have hnb87 := NB231_214.out
          have hnc87 := NB214_231.out
          have hcz88_0 : w81.cell? ⟨gb231, 0, none⟩ = some (.slice none 0 0) := (blk_cell BK231.out 0).trans rfl
          have hcz88_1 : w81.cell? ⟨gb231, 1, none⟩ = some (.slice none 0 0) := (blk_cell BK231.out 1).trans rfl
          have hfz88_0 := blk_frozen BK231.out 0
          have hfz88_1 := blk_frozen BK231.out 1
          have hcz89_0 : w81.cell? ⟨gb173, 0, none⟩ = some (.slice none 0 0) := (blk_cell BK173.out 0).trans rfl
          have hcz89_1 : w81.cell? ⟨gb173, 1, none⟩ = some (.slice none 0 0) := (blk_cell BK173.out 1).trans rfl
          have hfz89_0 := blk_frozen BK173.out 0
          have hfz89_1 := blk_frozen BK173.out 1
          try go_wp2
          refine bodyPost_ret (results_ct rfl _ _ gb173 44 #[.slice Ao82 t224.length co82, .slice Ao84 t227.length co84] (0, 0) _ rfl (by (with_reducible repeat (first | refine blk_drewN ?_ _ | refine blk_drew ?_ | refine blk_alloc ?_ _)); refine blk_put (cs := #[.slice Ao82 t224.length co82, .slice none 0 0]) ?_ 1 _ rfl; (with_reducible repeat (first | refine blk_drewN ?_ _ | refine blk_drew ?_ | refine blk_alloc ?_ _)); refine blk_put (cs := #[.slice none 0 0, .slice none 0 0]) ?_ 0 _ rfl; (with_reducible repeat (first | refine blk_drewN ?_ _ | refine blk_drew ?_ | refine blk_alloc ?_ _)); refine blk_far ?_ NB173_231.out _; (with_reducible repeat (first | refine blk_drewN ?_ _ | refine blk_drew ?_ | refine blk_alloc ?_ _)); refine blk_far ?_ NB173_231.out _; (with_reducible repeat (first | refine blk_drewN ?_ _ | refine blk_drew ?_ | refine blk_alloc ?_ _)); exact BK173.out) Tryd.underlying44 rfl (by kernel_rfl)) rfl ?_
          exact ⟨_, _, by first | rfl | (simp [errW_none, errW_some] <;> rfl) | (simp [*, errW_none, errW_some] <;> rfl), by (with_reducible repeat (first | apply Kd.R_alloc | apply Kd.R_drewN | apply Kd.R_drew)); exact Kd.R_mono (Kd.R_far (p := ⟨gb173, 1, none⟩) (Kd.R_far (p := ⟨gb173, 0, none⟩) (Kd.R_far (p := ⟨gb231, 1, none⟩) (Kd.R_far (p := ⟨gb231, 0, none⟩) (Kd.R_types (Kd.R_types HO226.out BK231.out (by decide)) BK173.out (by decide)) (fun _ hk => hk.1.2) (.slice Ao82 t224.length co82)) (fun _ hk => hk.1.2) (.slice Ao84 t227.length co84)) (fun _ hk => hk.2) (.slice Ao82 t224.length co82)) (fun _ hk => hk.2) (.slice Ao84 t227.length co84)) (fun _ hk => hk.1.1.2.2), by (with_reducible repeat (first | apply Kd.R_alloc | apply Kd.R_drewN | apply Kd.R_drew)); exact Kd.R_mono (Kd.R_far (p := ⟨gb173, 1, none⟩) (Kd.R_far (p := ⟨gb173, 0, none⟩) (Kd.R_far (p := ⟨gb231, 1, none⟩) (Kd.R_far (p := ⟨gb231, 0, none⟩) (Kd.R_types (Kd.R_types HO229.out BK231.out (by decide)) BK173.out (by decide)) (fun _ hk => hk.1.2) (.slice Ao82 t224.length co82)) (fun _ hk => hk.1.2) (.slice Ao84 t227.length co84)) (fun _ hk => hk.2) (.slice Ao82 t224.length co82)) (fun _ hk => hk.2) (.slice Ao84 t227.length co84)) (fun _ hk => hk.1.1.2.2), by repeat (first | (with_reducible first | exact HB.out | apply below_alloc | apply pw_below_drewN | apply below_drew1 | refine below_set ?_ GE173.out | refine below_set ?_ GE214.out | refine below_set ?_ GE231.out) | exact HB.out)⟩
         ·replace c57 := Bool.eq_false_iff.mpr c57
          subst c57
          have H1 : ((clash_Two.f kj2 (l0.drop (t215 : Int).toNat) (l1.drop (t215 : Int).toNat)).bind fun bt240 => (some (bt240.1, bt240.2.1, bt240.2.2))) = some (r1, r2, r3) := by rw [if_neg (show ¬ (false = true) by decide)] at H; exact H
          clear H
          have H := H1
          clear H1
          have c90b0 := eq_true (of_decide_eq_true (by first | (with_reducible assumption) | assumption) : 0 ≤ t215)
          have c91b0 := eq_true (of_decide_eq_true (by first | (with_reducible assumption) | assumption) : t215 ≤ (l0.length : Int))
          obtain ⟨y232, hy232⟩ : ∃ y_ : List (List Int), y_ = (l0.drop (t215 : Int).toNat) := ⟨_, rfl⟩
          replace H : ((clash_Two.f kj2 y232 (l1.drop (t215 : Int).toNat)).bind fun bt240 => (some (bt240.1, bt240.2.1, bt240.2.2))) = some (r1, r2, r3) := by first | (rw [hy232]; with_reducible exact H) | (have H2_ := (Option.bind_some _ _).symm.trans H; rw [hy232]; with_reducible exact H2_) | (have H2_ := (Option.bind_some _ _).symm.trans H; with_reducible exact H2_) | with_reducible exact H | (rw [hy232]; exact H) | exact H
          have Ny232 := Aside0.mk hy232
          clear hy232
          have c92b0 := eq_true (of_decide_eq_true (by first | (with_reducible assumption) | assumption) : 0 ≤ t215)
          have c93b0 := eq_true (of_decide_eq_true (by first | (with_reducible assumption) | assumption) : t215 ≤ (l1.length : Int))
          obtain ⟨y236, hy236⟩ : ∃ y_ : List (List Int), y_ = (l1.drop (t215 : Int).toNat) := ⟨_, rfl⟩
          replace H : ((clash_Two.f kj2 y232 y236).bind fun bt240 => (some (bt240.1, bt240.2.1, bt240.2.2))) = some (r1, r2, r3) := by first | (rw [hy236]; with_reducible exact H) | (have H2_ := (Option.bind_some _ _).symm.trans H; rw [hy236]; with_reducible exact H2_) | (have H2_ := (Option.bind_some _ _).symm.trans H; with_reducible exact H2_) | with_reducible exact H | (rw [hy236]; exact H) | exact H
          have Ny236 := Aside0.mk hy236
          clear hy236
          replace H := Option.bind_eq_some_iff.mp H
          obtain ⟨⟨t240, t243, t246⟩, A940, H⟩ := H
          replace H : (some (t240, t243, t246)) = some (r1, r2, r3) := H
          have A94 := Aside0.mk A940
          clear A940
          simp only [Option.some.injEq, Prod.mk.injEq] at H
          obtain ⟨rfl, rfl, rfl⟩ := H
          try go_wp2_with (first | ((with_reducible refine gate_callee (f := 46) rfl ?_); refine goesL_ (some 40) rfl rfl Tryd.func46 (by kernel_rfl) rfl #[.slice A0 l0.length c0] rfl zm ?_; (with_reducible refine (tree_Leaves.calls kj2 _ _ l0 t192 _ ?side3 ?side1 ?side2 A27.out).mono ?_); (case side1 => exact zc (Kd.C_below HR0.out HB.out)); (case side2 => exact HC0.out); (case side3 => exact gw_step hG_ (zb1 HB.out GE173.out)); rintro e w95 ⟨v193, rfl, ho0, hb⟩; refine ⟨_, rfl, ?_⟩; have n0_ := zL1 ho0 HB GE173; have n1_ := zK BK173 hb; have n2_ := zS1 HB GE173 hb; clear BK173; clear HB; have HO194 := n0_; have BK173 := n1_; have HB := n2_; clear n0_ n1_ n2_; (try clear hb); (try clear hb2); (try clear hk); (try clear hi); (try clear ho0); obtain ⟨Ao96, co96, eo96⟩ := Kd.R_slice HO194.out; subst eo96) | ((with_reducible refine gate_callee (f := 60) rfl ?_); refine goesL_ (some 41) rfl rfl Tryd.func60 (by kernel_rfl) rfl #[.slice Ao96 t192.length co96] rfl zm ?_; (with_reducible refine (clash_halves.calls kj2 _ _ t192 t195 _ ?side3 ?side1 ?side2 A28.out).mono ?_); (case side1 => exact zc (Kd.R_reads' HO194.out).2.2); (case side2 => exact (Kd.R_reads' HO194.out).2.1); (case side3 => exact gw_step hG_ (zb1 HB.out GE173.out)); rintro e w97 ⟨v196, rfl, ho0, hb⟩; refine ⟨_, rfl, ?_⟩; have n0_ := zR HO194 hb; have n1_ := zL1 ho0 HB GE173; have n2_ := zK BK173 hb; have n3_ := zS1 HB GE173 hb; clear HO194; clear BK173; clear HB; have HO194 := n0_; have HO197 := n1_; have BK173 := n2_; have HB := n3_; clear n0_ n1_ n2_ n3_; (try clear hb); (try clear hb2); (try clear hk); (try clear hi); (try clear ho0)) | ((with_reducible refine gate_callee (f := 46) rfl ?_); refine goesL_ (some 43) rfl rfl Tryd.func46 (by kernel_rfl) rfl #[.slice A1 l1.length c1] rfl zm ?_; (with_reducible refine (tree_Leaves.calls kj2 _ _ l1 t198 _ ?side3 ?side1 ?side2 A29.out).mono ?_); (case side1 => exact zc (Kd.C_below HR1.out HB.out)); (case side2 => exact HC1.out); (case side3 => exact gw_step hG_ (zb1 HB.out GE173.out)); rintro e w98 ⟨v199, rfl, ho0, hb⟩; refine ⟨_, rfl, ?_⟩; have n0_ := Aside0.mk (Kd.R_elder' (zr HO194.out) (Kd.R_base ho0) hb); have n1_ := zR HO197 hb; have n2_ := Aside0.mk (Kd.R_lower (Kd.R_new' ho0 (Kd.R_lt (zr HO194.out))) (below_size (zb1 HB.out GE173.out))); have n3_ := zK BK173 hb; have n4_ := zS1 HB GE173 hb; clear HO194; clear HO197; clear BK173; clear HB; have HO194 := n0_; have HO197 := n1_; have HO200 := n2_; have BK173 := n3_; have HB := n4_; clear n0_ n1_ n2_ n3_ n4_; (try clear hb); (try clear hb2); (try clear hk); (try clear hi); (try clear ho0); obtain ⟨Ao99, co99, eo99⟩ := Kd.R_slice HO200.out; subst eo99) | ((with_reducible refine gate_callee (f := 60) rfl ?_); refine goesL_ (some 44) rfl rfl Tryd.func60 (by kernel_rfl) rfl #[.slice Ao99 t198.length co99] rfl zm ?_; (with_reducible refine (clash_halves.calls kj2 _ _ t198 t201 _ ?side3 ?side1 ?side2 A30.out).mono ?_); (case side1 => exact zc (Kd.R_reads' HO200.out).2.2); (case side2 => exact (Kd.R_reads' HO200.out).2.1); (case side3 => exact gw_step hG_ (zb1 HB.out GE173.out)); rintro e w100 ⟨v202, rfl, ho0, hb⟩; refine ⟨_, rfl, ?_⟩; have n0_ := zR HO194 hb; have n1_ := Aside0.mk (Kd.R_elder' (zr HO197.out) (Kd.R_base ho0) hb); have n2_ := zR HO200 hb; have n3_ := Aside0.mk (Kd.R_lower (Kd.R_new' ho0 (Kd.R_lt (zr HO197.out))) (below_size (zb1 HB.out GE173.out))); have n4_ := zK BK173 hb; have n5_ := zS1 HB GE173 hb; clear HO194; clear HO197; clear HO200; clear BK173; clear HB; have HO194 := n0_; have HO197 := n1_; have HO200 := n2_; have HO203 := n3_; have BK173 := n4_; have HB := n5_; clear n0_ n1_ n2_ n3_ n4_ n5_; (try clear hb); (try clear hb2); (try clear hk); (try clear hi); (try clear ho0); obtain ⟨Ao101, co101, eo101⟩ := Kd.R_slice HO203.out; subst eo101; obtain ⟨Ao102, co102, eo102⟩ := Kd.R_slice HO197.out; subst eo102) | ((with_reducible refine gate_dst (N := 46) rfl ?_); (try (refine gate_guard (by rfl) ?_; dsimp only)); refine Kd.N_lit k77 _ 77 ?hg (N' := 46) ?hd (xs := ([(⟨t195, t201⟩ : S77)] : List (S77))) (inner := [.slice Ao102 t195.length co102, .slice Ao101 t201.length co101]) (ok := (fun k_ => some k_ ≠ (.slice Ao96 t192.length co96 : Value).ownBlock ∧ some k_ ≠ (.slice Ao99 t198.length co99 : Value).ownBlock ∧ k_ ≠ gb173)) (okp := (fun k_ => some k_ ≠ (.slice Ao96 t192.length co96 : Value).ownBlock ∧ some k_ ≠ (.slice Ao99 t198.length co99 : Value).ownBlock ∧ k_ ≠ gb173)) ?hr ?hp (fun _ hk => hk) ((show ∀ k_, w100.heap.size ≤ k_ → (fun k_ => some k_ ≠ (.slice Ao96 t192.length co96 : Value).ownBlock ∧ some k_ ≠ (.slice Ao99 t198.length co99 : Value).ownBlock ∧ k_ ≠ gb173) k_ from fun k_ hk => ⟨Kd.fresh' (Kd.R_lt (zr HO194.out)) k_ hk, Kd.fresh' (Kd.R_lt (zr HO200.out)) k_ hk, Kd.freshB (g := gb173) (o := .cells #[.slice none 0 0, .slice none 0 0] 44 (0, 0)) (zk BK173.out) k_ hk⟩) _ (Nat.le_refl _)) (Below.refl _ _) (Nat.le_refl _) (by simp) ?_; (case hd => rfl); (case hg => rfl); (case hr => first | (go_simp; done) | (go_simp; rfl)); (case hp => exact (Reps.c2 (show Kd.FK k77 _ _ (⟨t195, t201⟩ : S77) [.slice Ao102 t195.length co102, .slice Ao101 t201.length co101] from (k77_mkF _ _ (⟨t195, t201⟩ : S77) (Kd.R_reads' (Kd.R_mono (ok' := (fun k_ => some k_ ≠ (.slice Ao96 t192.length co96 : Value).ownBlock ∧ some k_ ≠ (.slice Ao99 t198.length co99 : Value).ownBlock ∧ k_ ≠ gb173)) (Kd.R_types (Kd.R_apart' (Kd.R_apart' (HO197.out) (Kd.R_typed HO194.out) (by decide)) (Kd.R_typed HO200.out) (by decide)) BK173.out (by decide)) (fun k_ hk => ⟨hk.1.1.2, ⟨hk.1.2, hk.2⟩⟩))).2.1 (Kd.R_F (Kd.R_mono (ok' := (fun k_ => some k_ ≠ (.slice Ao96 t192.length co96 : Value).ownBlock ∧ some k_ ≠ (.slice Ao99 t198.length co99 : Value).ownBlock ∧ k_ ≠ gb173)) (Kd.R_types (Kd.R_apart' (Kd.R_apart' (HO197.out) (Kd.R_typed HO194.out) (by decide)) (Kd.R_typed HO200.out) (by decide)) BK173.out (by decide)) (fun k_ hk => ⟨hk.1.1.2, ⟨hk.1.2, hk.2⟩⟩))) (Kd.R_reads' (Kd.R_mono (ok' := (fun k_ => some k_ ≠ (.slice Ao96 t192.length co96 : Value).ownBlock ∧ some k_ ≠ (.slice Ao99 t198.length co99 : Value).ownBlock ∧ k_ ≠ gb173)) (Kd.R_types (Kd.R_apart' (Kd.R_apart' (HO203.out) (Kd.R_typed HO194.out) (by decide)) (Kd.R_typed HO200.out) (by decide)) BK173.out (by decide)) (fun k_ hk => ⟨hk.1.1.2, ⟨hk.1.2, hk.2⟩⟩))).2.1 (Kd.R_F (Kd.R_mono (ok' := (fun k_ => some k_ ≠ (.slice Ao96 t192.length co96 : Value).ownBlock ∧ some k_ ≠ (.slice Ao99 t198.length co99 : Value).ownBlock ∧ k_ ≠ gb173)) (Kd.R_types (Kd.R_apart' (Kd.R_apart' (HO203.out) (Kd.R_typed HO194.out) (by decide)) (Kd.R_typed HO200.out) (by decide)) BK173.out (by decide)) (fun k_ hk => ⟨hk.1.1.2, ⟨hk.1.2, hk.2⟩⟩))))) (Reps.none _ _))); intro v205 w103 ho104 hb hg_ hnew_; clear hg_ hnew_; (first | rw [← Ny204.out] at ho104 | (simp only [Int.reduceToNat] at ho104; rw [← Ny204.out] at ho104)); have n0_ := zR HO194 hb; have n1_ := zR HO200 hb; have n2_ := Aside0.mk (Kd.N_lower ho104 (below_size (zb1 HB.out GE173.out))); have n3_ := zK BK173 hb; have n4_ := zS1 HB GE173 hb; clear HO194; clear HO200; clear BK173; clear HB; clear HO197; clear HO203; have HO194 := n0_; have HO200 := n1_; have HO206 := n2_; have BK173 := n3_; have HB := n4_; clear n0_ n1_ n2_ n3_ n4_; clear hb ho104; obtain ⟨Ao105, co105, eo105⟩ := Kd.N_slice HO206.out; subst eo105) | ((with_reducible refine gate_callee (f := 61) rfl ?_); refine goesL_ (some 47) rfl rfl Tryd.func61 (by kernel_rfl) rfl #[.slice Ao105 y204.length co105] rfl zm ?_; (with_reducible refine (clash_first.calls kj2 _ _ y204 t207 t210 false _ ?side3 ?side1 ?side2 A31.out).mono ?_); (case side1 => exact zc (Kd.N_reads' HO206.out).2.2); (case side2 => exact (Kd.N_reads' HO206.out).2.1); (case side3 => exact gw_step hG_ (zb1 HB.out GE173.out)); rintro e w106 ⟨v208, v211, rfl, ho0, ho1, hb⟩; refine ⟨_, rfl, ?_⟩; have n0_ := zR HO194 hb; have n1_ := zR HO200 hb; have n2_ := Aside0.mk (Kd.N_mono (Kd.N_told (Kd.N_told (Kd.N_old (by (with_reducible repeat (first | apply Kd.N_alloc | apply Kd.N_drewN | apply Kd.N_drew)); exact HO206.out) hb) (Kd.R_base ho0)) (Kd.R_base ho1)) (fun _ h_ => h_.1)); have n3_ := zL1 ho0 HB GE173; have n4_ := zL1 ho1 HB GE173; have n5_ := zK BK173 hb; have n6_ := zS1 HB GE173 hb; clear HO194; clear HO200; clear HO206; clear BK173; clear HB; have HO194 := n0_; have HO200 := n1_; have HO206 := n2_; have HO209 := n3_; have HO212 := n4_; have BK173 := n5_; have HB := n6_; clear n0_ n1_ n2_ n3_ n4_ n5_ n6_; (try clear hb); (try clear hb2); (try clear hk); (try clear hi); (try clear ho0); (try clear ho1)) | ((with_reducible refine gate_dst (N := 6) rfl ?_); (try (refine gate_guard (by rfl) ?_; dsimp only)); refine box_event ?hg (N := 6) ?hd (cs := #[.slice none 0 0, .slice none 0 0]) (t := 44) ?hr ?_; (case hd => rfl); (case hg => rfl); (case hr => first | (go_simp; done) | (go_simp; rfl)); intro gb214 hg w107 hbox hb; have n0_ := zR HO194 hb; have n1_ := zR HO200 hb; have n2_ := Aside0.mk (Kd.N_below (Kd.N_elderB (by (with_reducible repeat (first | apply Kd.N_alloc | apply Kd.N_drewN | apply Kd.N_drew)); exact HO206.out) gb214 (Nat.le_of_eq hg.symm)) hb); have n3_ := zR HO209 hb; have n4_ := zR HO212 hb; have n5_ := zK BK173 hb; have n6_ := zS1 HB GE173 hb; have n7_ := Aside0.mk (hbox); have n8_ := Aside0.mk ((by rw [hg]; exact (below_size (zb1 HB.out GE173.out)) : w.heap.size ≤ gb214)); have n9_ := Aside0.mk ((by rw [hg]; exact (below_size (zb1 HB.out GE173.out)) : w.heap.size ≤ gb214)); have n10_ := Aside0.mk ((by rw [hg]; exact Nat.ne_of_lt (blk_lt (g := gb173) (o := .cells #[.slice none 0 0, .slice none 0 0] 44 (0, 0)) (zk BK173.out)) : gb173 ≠ gb214)); have n11_ := Aside0.mk ((by rw [hg]; exact Nat.ne_of_gt (blk_lt (g := gb173) (o := .cells #[.slice none 0 0, .slice none 0 0] 44 (0, 0)) (zk BK173.out)) : gb214 ≠ gb173)); clear HO194; clear HO200; clear HO206; clear HO209; clear HO212; clear BK173; clear HB; have HO194 := n0_; have HO200 := n1_; have HO206 := n2_; have HO209 := n3_; have HO212 := n4_; have BK173 := n5_; have HB := n6_; have BK214 := n7_; have GW214 := n8_; have GE214 := n9_; have NB173_214 := n10_; have NB214_173 := n11_; clear n0_ n1_ n2_ n3_ n4_ n5_ n6_ n7_ n8_ n9_ n10_ n11_; clear hb hbox hg; obtain ⟨Ao108, co108, eo108⟩ := Kd.R_slice HO209.out; subst eo108; have hnb109 := NB214_173.out; have hnc109 := NB173_214.out; have hcz110_0 : w107.cell? ⟨gb214, 0, none⟩ = some (.slice none 0 0) := (blk_cell BK214.out 0).trans rfl; have hcz110_1 : w107.cell? ⟨gb214, 1, none⟩ = some (.slice none 0 0) := (blk_cell BK214.out 1).trans rfl; have hfz110_0 := blk_frozen BK214.out 0; have hfz110_1 := blk_frozen BK214.out 1; obtain ⟨Ao111, co111, eo111⟩ := Kd.R_slice HO212.out; subst eo111) | ((with_reducible refine gate_callee (f := 49) rfl ?_); refine goesL_ (some 54) rfl rfl Tryd.func49 (by kernel_rfl) rfl #[.int .i64 (l0.length : Int)] rfl zm ?_; (with_reducible refine (tree_Split.calls kj2 (l0.length : Int) t215 _ A51.out).mono ?_); rintro e w' ⟨rfl, ⟨nd, rfl⟩⟩; refine ⟨_, rfl, ?_⟩))
          have n0_ : Aside0 (Kd.R Kd.string 9 ((w107.setCell ⟨gb214, 0, none⟩ (.slice Ao108 t207.length co108)).setCell ⟨gb214, 1, none⟩ (.slice Ao111 t210.length co111)) w.heap.size (fun k_ => some k_ ≠ (.slice Ao99 t198.length co99 : Value).ownBlock) (.slice Ao96 t192.length co96) t192) := ⟨by (with_reducible repeat (first | apply Kd.R_alloc | apply Kd.R_drewN | apply Kd.R_drew)); exact Kd.R_mono (Kd.R_far (p := ⟨gb214, 1, none⟩) (Kd.R_far (p := ⟨gb214, 0, none⟩) (Kd.R_types HO194.out BK214.out (by decide)) (fun _ hk => hk.2) (.slice Ao108 t207.length co108)) (fun _ hk => hk.2) (.slice Ao111 t210.length co111)) (fun _ hk => hk.1.2)⟩
          have n1_ : Aside0 (Kd.R Kd.string 9 ((w107.setCell ⟨gb214, 0, none⟩ (.slice Ao108 t207.length co108)).setCell ⟨gb214, 1, none⟩ (.slice Ao111 t210.length co111)) w.heap.size (fun k_ => some k_ ≠ (.slice Ao96 t192.length co96 : Value).ownBlock) (.slice Ao99 t198.length co99) t198) := ⟨by (with_reducible repeat (first | apply Kd.R_alloc | apply Kd.R_drewN | apply Kd.R_drew)); exact Kd.R_mono (Kd.R_far (p := ⟨gb214, 1, none⟩) (Kd.R_far (p := ⟨gb214, 0, none⟩) (Kd.R_types HO200.out BK214.out (by decide)) (fun _ hk => hk.2) (.slice Ao108 t207.length co108)) (fun _ hk => hk.2) (.slice Ao111 t210.length co111)) (fun _ hk => hk.1.2)⟩
          have n2_ : Aside0 (Kd.N k77 77 ((w107.setCell ⟨gb214, 0, none⟩ (.slice Ao108 t207.length co108)).setCell ⟨gb214, 1, none⟩ (.slice Ao111 t210.length co111)) w.heap.size (fun k_ => some k_ ≠ (.slice Ao96 t192.length co96 : Value).ownBlock ∧ some k_ ≠ (.slice Ao99 t198.length co99 : Value).ownBlock ∧ some k_ ≠ (.slice Ao108 t207.length co108 : Value).ownBlock ∧ some k_ ≠ (.slice Ao111 t210.length co111 : Value).ownBlock ∧ k_ ≠ gb173 ∧ k_ ≠ gb214) (.slice Ao105 y204.length co105) y204) := ⟨by (with_reducible repeat (first | apply Kd.N_alloc | apply Kd.N_drewN | apply Kd.N_drew)); exact Kd.N_mono (Kd.N_far (p := ⟨gb214, 1, none⟩) (Kd.N_far (p := ⟨gb214, 0, none⟩) (Kd.N_mono HO206.out (fun k_ hk => (⟨hk, hk.2⟩ : _ ∧ k_ ≠ gb214))) (fun _ hk => hk.2) (.slice Ao108 t207.length co108)) (fun _ hk => hk.2) (.slice Ao111 t210.length co111)) (fun _ hk => ⟨hk.1.1.1.1.1, ⟨hk.1.1.1.1.2.1, ⟨hk.1.1.1.2, ⟨hk.1.1.2, ⟨hk.1.1.1.1.2.2, hk.1.2⟩⟩⟩⟩⟩)⟩
          have n3_ : Aside0 (Kd.R (Kd.int .u8) 5 ((w107.setCell ⟨gb214, 0, none⟩ (.slice Ao108 t207.length co108)).setCell ⟨gb214, 1, none⟩ (.slice Ao111 t210.length co111)) w.heap.size (fun k_ => some k_ ≠ (.slice Ao111 t210.length co111 : Value).ownBlock) (.slice Ao108 t207.length co108) t207) := ⟨by (with_reducible repeat (first | apply Kd.R_alloc | apply Kd.R_drewN | apply Kd.R_drew)); exact Kd.R_mono (Kd.R_far (p := ⟨gb214, 1, none⟩) (Kd.R_far (p := ⟨gb214, 0, none⟩) (Kd.R_types HO209.out BK214.out (by decide)) (fun _ hk => hk.2) (.slice Ao108 t207.length co108)) (fun _ hk => hk.2) (.slice Ao111 t210.length co111)) (fun _ hk => hk.1)⟩
          have n4_ : Aside0 (Kd.R (Kd.int .u8) 5 ((w107.setCell ⟨gb214, 0, none⟩ (.slice Ao108 t207.length co108)).setCell ⟨gb214, 1, none⟩ (.slice Ao111 t210.length co111)) w.heap.size (fun k_ => some k_ ≠ (.slice Ao108 t207.length co108 : Value).ownBlock) (.slice Ao111 t210.length co111) t210) := ⟨by (with_reducible repeat (first | apply Kd.R_alloc | apply Kd.R_drewN | apply Kd.R_drew)); exact Kd.R_mono (Kd.R_far (p := ⟨gb214, 1, none⟩) (Kd.R_far (p := ⟨gb214, 0, none⟩) (Kd.R_types HO212.out BK214.out (by decide)) (fun _ hk => hk.2) (.slice Ao108 t207.length co108)) (fun _ hk => hk.2) (.slice Ao111 t210.length co111)) (fun _ hk => hk.1)⟩
          have n5_ : Aside0 (((w107.setCell ⟨gb214, 0, none⟩ (.slice Ao108 t207.length co108)).setCell ⟨gb214, 1, none⟩ (.slice Ao111 t210.length co111)).heap[gb173]? = some (.cells #[.slice none 0 0, .slice none 0 0] 44 (0, 0))) := ⟨by (with_reducible repeat (first | refine blk_drewN ?_ _ | refine blk_drew ?_ | refine blk_alloc ?_ _)); refine blk_far ?_ NB173_214.out _; (with_reducible repeat (first | refine blk_drewN ?_ _ | refine blk_drew ?_ | refine blk_alloc ?_ _)); refine blk_far ?_ NB173_214.out _; (with_reducible repeat (first | refine blk_drewN ?_ _ | refine blk_drew ?_ | refine blk_alloc ?_ _)); exact BK173.out⟩
          have n6_ : Aside0 (((w107.setCell ⟨gb214, 0, none⟩ (.slice Ao108 t207.length co108)).setCell ⟨gb214, 1, none⟩ (.slice Ao111 t210.length co111)).heap[gb214]? = some (.cells #[.slice Ao108 t207.length co108, .slice Ao111 t210.length co111] 44 (0, 0))) := ⟨by (with_reducible repeat (first | refine blk_drewN ?_ _ | refine blk_drew ?_ | refine blk_alloc ?_ _)); refine blk_put (cs := #[.slice Ao108 t207.length co108, .slice none 0 0]) ?_ 1 _ rfl; (with_reducible repeat (first | refine blk_drewN ?_ _ | refine blk_drew ?_ | refine blk_alloc ?_ _)); refine blk_put (cs := #[.slice none 0 0, .slice none 0 0]) ?_ 0 _ rfl; (with_reducible repeat (first | refine blk_drewN ?_ _ | refine blk_drew ?_ | refine blk_alloc ?_ _)); exact BK214.out⟩
          have n7_ : Aside0 (Below w.heap.size w ((w107.setCell ⟨gb214, 0, none⟩ (.slice Ao108 t207.length co108)).setCell ⟨gb214, 1, none⟩ (.slice Ao111 t210.length co111))) := ⟨by repeat (first | (with_reducible first | exact HB.out | apply below_alloc | apply pw_below_drewN | apply below_drew1 | refine below_set ?_ GE173.out | refine below_set ?_ GE214.out) | exact HB.out)⟩
          (try clear HO194)
          (try clear HO200)
          (try clear HO206)
          (try clear HO209)
          (try clear HO212)
          (try clear BK173)
          (try clear BK214)
          (try clear HB)
          generalize ((w107.setCell ⟨gb214, 0, none⟩ (.slice Ao108 t207.length co108)).setCell ⟨gb214, 1, none⟩ (.slice Ao111 t210.length co111)) = w112 at n0_ n1_ n2_ n3_ n4_ n5_ n6_ n7_ ⊢
          have HO194 := n0_
          have HO200 := n1_
          have HO206 := n2_
          have HO209 := n3_
          have HO212 := n4_
          have BK173 := n5_
          have BK214 := n6_
          have HB := n7_
          clear n0_ n1_ n2_ n3_ n4_ n5_ n6_ n7_
          (try (rw [drewN_self w112]; generalize hq_ : World.drewN w112 _ = w112; have n0_ : Aside0 (Kd.R Kd.string 9 w112 w.heap.size (fun k_ => some k_ ≠ (.slice Ao99 t198.length co99 : Value).ownBlock) (.slice Ao96 t192.length co96) t192) := ⟨by rw [← hq_]; exact (zr HO194.out)⟩; have n1_ : Aside0 (Kd.R Kd.string 9 w112 w.heap.size (fun k_ => some k_ ≠ (.slice Ao96 t192.length co96 : Value).ownBlock) (.slice Ao99 t198.length co99) t198) := ⟨by rw [← hq_]; exact (zr HO200.out)⟩; have n2_ : Aside0 (Kd.N k77 77 w112 w.heap.size (fun k_ => some k_ ≠ (.slice Ao96 t192.length co96 : Value).ownBlock ∧ some k_ ≠ (.slice Ao99 t198.length co99 : Value).ownBlock ∧ some k_ ≠ (.slice Ao108 t207.length co108 : Value).ownBlock ∧ some k_ ≠ (.slice Ao111 t210.length co111 : Value).ownBlock ∧ k_ ≠ gb173 ∧ k_ ≠ gb214) (.slice Ao105 y204.length co105) y204) := ⟨by rw [← hq_]; exact (by (with_reducible repeat (first | apply Kd.N_alloc | apply Kd.N_drewN | apply Kd.N_drew)); exact HO206.out)⟩; have n3_ : Aside0 (Kd.R (Kd.int .u8) 5 w112 w.heap.size (fun k_ => some k_ ≠ (.slice Ao111 t210.length co111 : Value).ownBlock) (.slice Ao108 t207.length co108) t207) := ⟨by rw [← hq_]; exact (zr HO209.out)⟩; have n4_ : Aside0 (Kd.R (Kd.int .u8) 5 w112 w.heap.size (fun k_ => some k_ ≠ (.slice Ao108 t207.length co108 : Value).ownBlock) (.slice Ao111 t210.length co111) t210) := ⟨by rw [← hq_]; exact (zr HO212.out)⟩; have n5_ : Aside0 (w112.heap[gb173]? = some (.cells #[.slice none 0 0, .slice none 0 0] 44 (0, 0))) := ⟨by rw [← hq_]; exact (zk BK173.out)⟩; have n6_ : Aside0 (w112.heap[gb214]? = some (.cells #[.slice Ao108 t207.length co108, .slice Ao111 t210.length co111] 44 (0, 0))) := ⟨by rw [← hq_]; exact (zk BK214.out)⟩; have n7_ : Aside0 (Below w.heap.size w w112) := ⟨by rw [← hq_]; exact (zb2 HB.out GE173.out GE214.out)⟩; clear HO194 HO200 HO206 HO209 HO212 BK173 BK214 HB hq_; have HO194 := n0_; have HO200 := n1_; have HO206 := n2_; have HO209 := n3_; have HO212 := n4_; have BK173 := n5_; have BK214 := n6_; have HB := n7_; clear n0_ n1_ n2_ n3_ n4_ n5_ n6_ n7_))
          have n0_ := Aside0.mk (Kd.R_drew HO194.out)
          have n1_ := Aside0.mk (Kd.R_drew HO200.out)
          have n2_ := Aside0.mk (Kd.N_drew HO206.out)
          have n3_ := Aside0.mk (Kd.R_drew HO209.out)
          have n4_ := Aside0.mk (Kd.R_drew HO212.out)
          have n5_ := Aside0.mk (blk_drew BK173.out)
          have n6_ := Aside0.mk (blk_drew BK214.out)
          have n7_ := Aside0.mk (below_drew1 HB.out)
          clear HO194
          clear HO200
          clear HO206
          clear HO209
          clear HO212
          clear BK173
          clear BK214
          clear HB
          have HO194 := n0_
          have HO200 := n1_
          have HO206 := n2_
          have HO209 := n3_
          have HO212 := n4_
          have BK173 := n5_
          have BK214 := n6_
          have HB := n7_
          clear n0_ n1_ n2_ n3_ n4_ n5_ n6_ n7_
          have q114 : (t215 : Int) ≤ ((l0.length : Int) : Int) := of_decide_eq_true (by first | (with_reducible assumption) | assumption)
          obtain ⟨i0114, hi0114, _, hsz114, _⟩ := info_parts info41
          have hroom114 : l0.length ≤ c0 := HC0.out
          have hC114 : Kd.C (Kd.slice 5 (Kd.int .u8)) _ A0 l0.length l0 := HR0.out
          have hcut114 := cut_to (P := Tryd.prog) 34 41 .i64 Tryd.underlying34 hi0114 A0 l0.length c0 t215 (of_decide_eq_true (by first | (with_reducible assumption) | assumption)) q114 hroom114
          have hr114 := Kd.C_take (m := (t215 : Int).toNat) hC114 (by omega)
          have hy114 : y216.length = (t215 : Int).toNat := (by rw [Ny216.out, List.length_take]; omega)
          rw [← Ny216.out] at hr114
          rw [← hy114] at hcut114
          have HR219 := Aside0.mk hr114
          have HC219 := Aside0.mk (show y216.length ≤ c0 from by omega)
          clear hr114 hC114 hroom114 hi0114 hsz114
          have KY114 := Aside0.mk hy114
          clear hy114
          replace q114 := eq_true q114
          have q115 : (t215 : Int) ≤ ((l1.length : Int) : Int) := of_decide_eq_true (by first | (with_reducible assumption) | assumption)
          obtain ⟨i0115, hi0115, _, hsz115, _⟩ := info_parts info41
          have hroom115 : l1.length ≤ c1 := HC1.out
          have hC115 : Kd.C (Kd.slice 5 (Kd.int .u8)) _ A1 l1.length l1 := HR1.out
          have hcut115 := cut_to (P := Tryd.prog) 34 41 .i64 Tryd.underlying34 hi0115 A1 l1.length c1 t215 (of_decide_eq_true (by first | (with_reducible assumption) | assumption)) q115 hroom115
          have hr115 := Kd.C_take (m := (t215 : Int).toNat) hC115 (by omega)
          have hy115 : y220.length = (t215 : Int).toNat := (by rw [Ny220.out, List.length_take]; omega)
          rw [← Ny220.out] at hr115
          rw [← hy115] at hcut115
          have HR223 := Aside0.mk hr115
          have HC223 := Aside0.mk (show y220.length ≤ c1 from by omega)
          clear hr115 hC115 hroom115 hi0115 hsz115
          have KY115 := Aside0.mk hy115
          clear hy115
          replace q115 := eq_true q115
          refine start_ (n := 13) (S := fun w' => True) (ds := []) #[false, false, false, false, false, false, false, false, false, false, false, false, false] (by kernel_rfl) rfl rfl trivial (fun hHeld => ?_); refine with_tabW clash_Two.tab9 clash_Two.bits9 (fun HT_ HW_ => ?_)
          generalize w112.drew = w113 at HO194 HO200 HO206 HO209 HO212 BK173 BK214 HB HR219 HR223 hHeld ⊢
          refine HBulk.bulkT (fuel := 7) HT_.out HW_.out [(0, some 56, false), (1, some 57, false), (2, some 58, false), (3, some 59, false), (4, some 60, false), (5, some 61, false)] #[true, true, true, true, true, true, false, false, false, false, false, false, false] (a' := ?_) (by kernel_rfl) rfl hHeld ?_ ?_
          rotate_left
          ·repeat
            refine HBulk.RunsM.cons (v := ?_) (a1 := ?_) rfl rfl (fun _ _ _ h => h) (by rfl) ?_ ?_ ?_
            rotate_left
            ·intro w' hS_
             go_simp
             with_reducible rfl
            rotate_left
            ·simp only [Act.put, List.setIfInBounds_toArray, List.set_cons_zero, List.set_cons_succ, i64_w, i32_w]
             rfl
           exact HBulk.RunsM.nil
          refine join_ (σ := Value × Value × Nat) 2 #[true, true, true, true, true, true, true, true, true, true, true, false, false] (fun s_ => [(62, .tuple #[.agg #[s_.1, s_.2.1], .bool false]), (9, .pointer (some ⟨s_.2.2, 0, none⟩)), (55, .tuple #[.agg #[s_.1, s_.2.1], .bool false]), (63, .agg #[s_.1, s_.2.1]), (64, .bool false)]) (fun s_ w' => (Kd.R Kd.string 9 w' w.heap.size (fun k_ => some k_ ≠ (.slice Ao99 t198.length co99 : Value).ownBlock) (.slice Ao96 t192.length co96) t192) ∧ (Kd.R Kd.string 9 w' w.heap.size (fun k_ => some k_ ≠ (.slice Ao96 t192.length co96 : Value).ownBlock) (.slice Ao99 t198.length co99) t198) ∧ (Kd.N k77 77 w' w.heap.size (fun k_ => some k_ ≠ (.slice Ao96 t192.length co96 : Value).ownBlock ∧ some k_ ≠ (.slice Ao99 t198.length co99 : Value).ownBlock ∧ some k_ ≠ (.slice Ao108 t207.length co108 : Value).ownBlock ∧ some k_ ≠ (.slice Ao111 t210.length co111 : Value).ownBlock ∧ some k_ ≠ (s_.1 : Value).ownBlock ∧ some k_ ≠ (s_.2.1 : Value).ownBlock ∧ k_ ≠ gb173 ∧ k_ ≠ gb214 ∧ k_ ≠ s_.2.2) (.slice Ao105 y204.length co105) y204) ∧ (Kd.R (Kd.int .u8) 5 w' w.heap.size (fun k_ => some k_ ≠ (.slice Ao111 t210.length co111 : Value).ownBlock ∧ some k_ ≠ (s_.1 : Value).ownBlock ∧ some k_ ≠ (s_.2.1 : Value).ownBlock) (.slice Ao108 t207.length co108) t207) ∧ (Kd.R (Kd.int .u8) 5 w' w.heap.size (fun k_ => some k_ ≠ (.slice Ao108 t207.length co108 : Value).ownBlock ∧ some k_ ≠ (s_.1 : Value).ownBlock ∧ some k_ ≠ (s_.2.1 : Value).ownBlock) (.slice Ao111 t210.length co111) t210) ∧ (Kd.R (Kd.int .u8) 5 w' w.heap.size (fun k_ => some k_ ≠ (.slice Ao108 t207.length co108 : Value).ownBlock ∧ some k_ ≠ (.slice Ao111 t210.length co111 : Value).ownBlock ∧ some k_ ≠ (s_.2.1 : Value).ownBlock) s_.1 t224) ∧ (Kd.R (Kd.int .u8) 5 w' w.heap.size (fun k_ => some k_ ≠ (.slice Ao108 t207.length co108 : Value).ownBlock ∧ some k_ ≠ (.slice Ao111 t210.length co111 : Value).ownBlock ∧ some k_ ≠ (s_.1 : Value).ownBlock) s_.2.1 t227) ∧ (w'.heap[gb173]? = some (.cells #[.slice none 0 0, .slice none 0 0] 44 (0, 0))) ∧ (w'.heap[gb214]? = some (.cells #[.slice Ao108 t207.length co108, .slice Ao111 t210.length co111] 44 (0, 0))) ∧ (w'.heap[s_.2.2]? = some (.cells #[.slice none 0 0, .slice none 0 0] 44 (0, 0))) ∧ (w.heap.size ≤ s_.2.2) ∧ (w.heap.size ≤ s_.2.2) ∧ (gb173 ≠ s_.2.2) ∧ (s_.2.2 ≠ gb173) ∧ (gb214 ≠ s_.2.2) ∧ (s_.2.2 ≠ gb214) ∧ (Below w.heap.size w w')) ?_ ?_
          rotate_left
          ·intro hCont
           refine two_ (i := 6) (j := 10) (Ni := some 62) (Nj := some 9) #[true, true, true, true, true, true, true, false, false, false, false, false, false] #[true, true, true, true, true, true, false, false, false, false, true, false, false] rfl rfl rfl rfl (two_of HT_.out (by kernel_rfl)) (by decide) (by decide) (fun K hK => ?_) (fun K hK => ?_)
           ·skip
            refine goes_ Tryd.func37 (by kernel_rfl) rfl #[.slice A0 y216.length c0, .slice A1 y220.length c1] (by rfl) rfl rfl zm ?_
            with_reducible refine (ih kj2 (by have := HJ2.out; omega) _ _ y216 _ _ y220 t224 t227 false _ ?side5 ?side1 ?side2 ?side3 ?side4 A56.out).mono ?_
            (case side1 => exact zc (Kd.C_below HR219.out HB.out))
            (case side2 => exact HC219.out)
            (case side3 => exact zc (Kd.C_below HR223.out HB.out))
            (case side4 => exact HC223.out)
            (case side5 => exact gw_step hG_ (zb2 HB.out GE173.out GE214.out))
            rintro e w116 ⟨v225, v228, rfl, ho0, ho1, hb⟩
            refine ⟨_, rfl, ?_⟩
            have n0_ := zR HO194 hb
            have n1_ := zR HO200 hb
            have n2_ := Aside0.mk (Kd.N_mono (Kd.N_told (Kd.N_told (Kd.N_old (by (with_reducible repeat (first | apply Kd.N_alloc | apply Kd.N_drewN | apply Kd.N_drew)); exact HO206.out) hb) (Kd.R_base ho0)) (Kd.R_base ho1)) (fun _ h_ => h_.1))
            have n3_ := Aside0.mk (Kd.R_mono (Kd.R_told (Kd.R_told (Kd.R_old (zr HO209.out) hb) (Kd.R_base ho0)) (Kd.R_base ho1)) (fun _ h_ => h_.1))
            have n4_ := Aside0.mk (Kd.R_mono (Kd.R_told (Kd.R_told (Kd.R_old (zr HO212.out) hb) (Kd.R_base ho0)) (Kd.R_base ho1)) (fun _ h_ => h_.1))
            have n5_ := Aside0.mk (Kd.R_lower (Kd.R_new' (Kd.R_new' ho0 (Kd.R_lt (zr HO209.out))) (Kd.R_lt (zr HO212.out))) (below_size (zb2 HB.out GE173.out GE214.out)))
            have n6_ := Aside0.mk (Kd.R_lower (Kd.R_new' (Kd.R_new' ho1 (Kd.R_lt (zr HO209.out))) (Kd.R_lt (zr HO212.out))) (below_size (zb2 HB.out GE173.out GE214.out)))
            have n7_ := zK BK173 hb
            have n8_ := zK BK214 hb
            have n9_ := zS2 HB GE173 GE214 hb
            clear HO194
            clear HO200
            clear HO206
            clear HO209
            clear HO212
            clear BK173
            clear BK214
            clear HB
            have HO194 := n0_
            have HO200 := n1_
            have HO206 := n2_
            have HO209 := n3_
            have HO212 := n4_
            have HO226 := n5_
            have HO229 := n6_
            have BK173 := n7_
            have BK214 := n8_
            have HB := n9_
            clear n0_ n1_ n2_ n3_ n4_ n5_ n6_ n7_ n8_ n9_
            (try clear hb)
            (try clear hb2)
            (try clear hk)
            (try clear hi)
            (try clear ho0)
            (try clear ho1)
            refine hK.out _ _ trivial (fun hHeld => ?_)
            clear hK K
            refine norm_ (a' := ?_) ?_ ?_
            rotate_left
            ·show Act.put _ (some 62) _ = _
             simp only [Act.put, List.setIfInBounds_toArray, List.set_cons_zero, List.set_cons_succ, i64_w, i32_w]
             rfl
            refine HBulk.bulkT (fuel := 3) HT_.out HW_.out [(7, some 55, false), (8, some 63, false), (9, some 64, false)] #[true, true, true, true, true, true, true, true, true, true, false, false, false] (a' := ?_) (by kernel_rfl) rfl hHeld ?_ ?_
            rotate_left
            ·repeat
              refine HBulk.RunsM.cons (v := ?_) (a1 := ?_) rfl rfl (fun _ _ _ h => h) (by rfl) ?_ ?_ ?_
              rotate_left
              ·intro w' hS_
               go_simp
               with_reducible rfl
              rotate_left
              ·simp only [Act.put, List.setIfInBounds_toArray, List.set_cons_zero, List.set_cons_succ, i64_w, i32_w]
               rfl
             exact HBulk.RunsM.nil
            refine one_ (i := 10) (N := some 9) #[true, true, true, true, true, true, true, true, true, true, true, false, false] rfl rfl (one_of HT_.out (by kernel_rfl)) (by decide) (fun K hK => ?_)
            refine box_step ?hg (N := 9) ?hd (cs := #[.slice none 0 0, .slice none 0 0]) (t := 44) ?hr ?_; (case hd => rfl); (case hg => rfl); (case hr => first | (go_simp; done) | (go_simp; rfl))
            intro gb231 hg w117 hbox hb
            have n0_ := zR HO194 hb
            have n1_ := zR HO200 hb
            have n2_ := Aside0.mk (Kd.N_below (Kd.N_elderB (by (with_reducible repeat (first | apply Kd.N_alloc | apply Kd.N_drewN | apply Kd.N_drew)); exact HO206.out) gb231 (Nat.le_of_eq hg.symm)) hb)
            have n3_ := zR HO209 hb
            have n4_ := zR HO212 hb
            have n5_ := zR HO226 hb
            have n6_ := zR HO229 hb
            have n7_ := zK BK173 hb
            have n8_ := zK BK214 hb
            have n9_ := zS2 HB GE173 GE214 hb
            have n10_ := Aside0.mk (hbox)
            have n11_ := Aside0.mk ((by rw [hg]; exact (below_size (zb2 HB.out GE173.out GE214.out)) : w.heap.size ≤ gb231))
            have n12_ := Aside0.mk ((by rw [hg]; exact (below_size (zb2 HB.out GE173.out GE214.out)) : w.heap.size ≤ gb231))
            have n13_ := Aside0.mk ((by rw [hg]; exact Nat.ne_of_lt (blk_lt (g := gb173) (o := .cells #[.slice none 0 0, .slice none 0 0] 44 (0, 0)) (zk BK173.out)) : gb173 ≠ gb231))
            have n14_ := Aside0.mk ((by rw [hg]; exact Nat.ne_of_gt (blk_lt (g := gb173) (o := .cells #[.slice none 0 0, .slice none 0 0] 44 (0, 0)) (zk BK173.out)) : gb231 ≠ gb173))
            have n15_ := Aside0.mk ((by rw [hg]; exact Nat.ne_of_lt (blk_lt (g := gb214) (o := .cells #[.slice Ao108 t207.length co108, .slice Ao111 t210.length co111] 44 (0, 0)) (zk BK214.out)) : gb214 ≠ gb231))
            have n16_ := Aside0.mk ((by rw [hg]; exact Nat.ne_of_gt (blk_lt (g := gb214) (o := .cells #[.slice Ao108 t207.length co108, .slice Ao111 t210.length co111] 44 (0, 0)) (zk BK214.out)) : gb231 ≠ gb214))
            clear HO194
            clear HO200
            clear HO206
            clear HO209
            clear HO212
            clear HO226
            clear HO229
            clear BK173
            clear BK214
            clear HB
            have HO194 := n0_
            have HO200 := n1_
            have HO206 := n2_
            have HO209 := n3_
            have HO212 := n4_
            have HO226 := n5_
            have HO229 := n6_
            have BK173 := n7_
            have BK214 := n8_
            have HB := n9_
            have BK231 := n10_
            have GW231 := n11_
            have GE231 := n12_
            have NB173_231 := n13_
            have NB231_173 := n14_
            have NB214_231 := n15_
            have NB231_214 := n16_
            clear n0_ n1_ n2_ n3_ n4_ n5_ n6_ n7_ n8_ n9_ n10_ n11_ n12_ n13_ n14_ n15_ n16_
            clear hb hbox hg
            refine hK.out _ _ trivial (fun hHeld => ?_)
            clear hK K
            refine norm_ (a' := ?_) ?_ ?_
            rotate_left
            ·show Act.put _ (some 9) _ = _
             simp only [Act.put, List.setIfInBounds_toArray, List.set_cons_zero, List.set_cons_succ, i64_w, i32_w]
             rfl
            exact norm_ (by simp only [putAll, Act.put, List.setIfInBounds_toArray, List.set_cons_zero, List.set_cons_succ]) (hCont (v225, v228, gb231) _ ⟨(zr HO194.out), (zr HO200.out), (by (with_reducible repeat (first | apply Kd.N_alloc | apply Kd.N_drewN | apply Kd.N_drew)); exact Kd.N_mono HO206.out (fun _ hk => ⟨hk.1.1.1.1, ⟨hk.1.1.1.2.1, ⟨hk.1.1.1.2.2.1, ⟨hk.1.1.1.2.2.2.1, ⟨hk.1.1.2, ⟨hk.1.2, ⟨hk.1.1.1.2.2.2.2.1, ⟨hk.1.1.1.2.2.2.2.2, hk.2⟩⟩⟩⟩⟩⟩⟩⟩)), (by (with_reducible repeat (first | apply Kd.R_alloc | apply Kd.R_drewN | apply Kd.R_drew)); exact Kd.R_mono HO209.out (fun _ hk => ⟨hk.1.1, ⟨hk.1.2, hk.2⟩⟩)), (by (with_reducible repeat (first | apply Kd.R_alloc | apply Kd.R_drewN | apply Kd.R_drew)); exact Kd.R_mono HO212.out (fun _ hk => ⟨hk.1.1, ⟨hk.1.2, hk.2⟩⟩)), (by (with_reducible repeat (first | apply Kd.R_alloc | apply Kd.R_drewN | apply Kd.R_drew)); exact Kd.R_mono HO226.out (fun _ hk => ⟨hk.1.2, ⟨hk.2, hk.1.1⟩⟩)), (by (with_reducible repeat (first | apply Kd.R_alloc | apply Kd.R_drewN | apply Kd.R_drew)); exact Kd.R_mono HO229.out (fun _ hk => ⟨hk.1.2, ⟨hk.2, hk.1.1⟩⟩)), (zk BK173.out), (zk BK214.out), (zk BK231.out), GW231.out, GE231.out, NB173_231.out, NB231_173.out, NB214_231.out, NB231_214.out, (zb3 HB.out GE173.out GE214.out GE231.out)⟩)
           ·skip
            refine box_step ?hg (N := 9) ?hd (cs := #[.slice none 0 0, .slice none 0 0]) (t := 44) ?hr ?_; (case hd => rfl); (case hg => rfl); (case hr => first | (go_simp; done) | (go_simp; rfl))
            intro gb231 hg w116 hbox hb
            have n0_ := zR HO194 hb
            have n1_ := zR HO200 hb
            have n2_ := Aside0.mk (Kd.N_below (Kd.N_elderB (by (with_reducible repeat (first | apply Kd.N_alloc | apply Kd.N_drewN | apply Kd.N_drew)); exact HO206.out) gb231 (Nat.le_of_eq hg.symm)) hb)
            have n3_ := zR HO209 hb
            have n4_ := zR HO212 hb
            have n5_ := zK BK173 hb
            have n6_ := zK BK214 hb
            have n7_ := zS2 HB GE173 GE214 hb
            have n8_ := Aside0.mk (hbox)
            have n9_ := Aside0.mk ((by rw [hg]; exact (below_size (zb2 HB.out GE173.out GE214.out)) : w.heap.size ≤ gb231))
            have n10_ := Aside0.mk ((by rw [hg]; exact (below_size (zb2 HB.out GE173.out GE214.out)) : w.heap.size ≤ gb231))
            have n11_ := Aside0.mk ((by rw [hg]; exact Nat.ne_of_lt (blk_lt (g := gb173) (o := .cells #[.slice none 0 0, .slice none 0 0] 44 (0, 0)) (zk BK173.out)) : gb173 ≠ gb231))
            have n12_ := Aside0.mk ((by rw [hg]; exact Nat.ne_of_gt (blk_lt (g := gb173) (o := .cells #[.slice none 0 0, .slice none 0 0] 44 (0, 0)) (zk BK173.out)) : gb231 ≠ gb173))
            have n13_ := Aside0.mk ((by rw [hg]; exact Nat.ne_of_lt (blk_lt (g := gb214) (o := .cells #[.slice Ao108 t207.length co108, .slice Ao111 t210.length co111] 44 (0, 0)) (zk BK214.out)) : gb214 ≠ gb231))
            have n14_ := Aside0.mk ((by rw [hg]; exact Nat.ne_of_gt (blk_lt (g := gb214) (o := .cells #[.slice Ao108 t207.length co108, .slice Ao111 t210.length co111] 44 (0, 0)) (zk BK214.out)) : gb231 ≠ gb214))
            clear HO194
            clear HO200
            clear HO206
            clear HO209
            clear HO212
            clear BK173
            clear BK214
            clear HB
            have HO194 := n0_
            have HO200 := n1_
            have HO206 := n2_
            have HO209 := n3_
            have HO212 := n4_
            have BK173 := n5_
            have BK214 := n6_
            have HB := n7_
            have BK231 := n8_
            have GW231 := n9_
            have GE231 := n10_
            have NB173_231 := n11_
            have NB231_173 := n12_
            have NB214_231 := n13_
            have NB231_214 := n14_
            clear n0_ n1_ n2_ n3_ n4_ n5_ n6_ n7_ n8_ n9_ n10_ n11_ n12_ n13_ n14_
            clear hb hbox hg
            refine hK.out _ _ trivial (fun hHeld => ?_)
            clear hK K
            refine norm_ (a' := ?_) ?_ ?_
            rotate_left
            ·show Act.put _ (some 9) _ = _
             simp only [Act.put, List.setIfInBounds_toArray, List.set_cons_zero, List.set_cons_succ, i64_w, i32_w]
             rfl
            refine one_ (i := 6) (N := some 62) #[true, true, true, true, true, true, true, false, false, false, true, false, false] rfl rfl (one_of HT_.out (by kernel_rfl)) (by decide) (fun K hK => ?_)
            refine goes_ Tryd.func37 (by kernel_rfl) rfl #[.slice A0 y216.length c0, .slice A1 y220.length c1] (by rfl) rfl rfl zm ?_
            with_reducible refine (ih kj2 (by have := HJ2.out; omega) _ _ y216 _ _ y220 t224 t227 false _ ?side5 ?side1 ?side2 ?side3 ?side4 A56.out).mono ?_
            (case side1 => exact zc (Kd.C_below HR219.out HB.out))
            (case side2 => exact HC219.out)
            (case side3 => exact zc (Kd.C_below HR223.out HB.out))
            (case side4 => exact HC223.out)
            (case side5 => exact gw_step hG_ (zb3 HB.out GE173.out GE214.out GE231.out))
            rintro e w117 ⟨v225, v228, rfl, ho0, ho1, hb⟩
            refine ⟨_, rfl, ?_⟩
            have n0_ := zR HO194 hb
            have n1_ := zR HO200 hb
            have n2_ := Aside0.mk (Kd.N_mono (Kd.N_told (Kd.N_told (Kd.N_old (by (with_reducible repeat (first | apply Kd.N_alloc | apply Kd.N_drewN | apply Kd.N_drew)); exact HO206.out) hb) (Kd.R_base ho0)) (Kd.R_base ho1)) (fun _ h_ => h_.1))
            have n3_ := Aside0.mk (Kd.R_mono (Kd.R_told (Kd.R_told (Kd.R_old (zr HO209.out) hb) (Kd.R_base ho0)) (Kd.R_base ho1)) (fun _ h_ => h_.1))
            have n4_ := Aside0.mk (Kd.R_mono (Kd.R_told (Kd.R_told (Kd.R_old (zr HO212.out) hb) (Kd.R_base ho0)) (Kd.R_base ho1)) (fun _ h_ => h_.1))
            have n5_ := Aside0.mk (Kd.R_lower (Kd.R_new' (Kd.R_new' ho0 (Kd.R_lt (zr HO209.out))) (Kd.R_lt (zr HO212.out))) (below_size (zb3 HB.out GE173.out GE214.out GE231.out)))
            have n6_ := Aside0.mk (Kd.R_lower (Kd.R_new' (Kd.R_new' ho1 (Kd.R_lt (zr HO209.out))) (Kd.R_lt (zr HO212.out))) (below_size (zb3 HB.out GE173.out GE214.out GE231.out)))
            have n7_ := zK BK173 hb
            have n8_ := zK BK214 hb
            have n9_ := zK BK231 hb
            have n10_ := Aside0.mk (below_step (zb3 HB.out GE173.out GE214.out GE231.out) hb)
            clear HO194
            clear HO200
            clear HO206
            clear HO209
            clear HO212
            clear BK173
            clear BK214
            clear BK231
            clear HB
            have HO194 := n0_
            have HO200 := n1_
            have HO206 := n2_
            have HO209 := n3_
            have HO212 := n4_
            have HO226 := n5_
            have HO229 := n6_
            have BK173 := n7_
            have BK214 := n8_
            have BK231 := n9_
            have HB := n10_
            clear n0_ n1_ n2_ n3_ n4_ n5_ n6_ n7_ n8_ n9_ n10_
            (try clear hb)
            (try clear hb2)
            (try clear hk)
            (try clear hi)
            (try clear ho0)
            (try clear ho1)
            refine hK.out _ _ trivial (fun hHeld => ?_)
            clear hK K
            refine norm_ (a' := ?_) ?_ ?_
            rotate_left
            ·show Act.put _ (some 62) _ = _
             simp only [Act.put, List.setIfInBounds_toArray, List.set_cons_zero, List.set_cons_succ, i64_w, i32_w]
             rfl
            refine HBulk.bulkT (fuel := 2) HT_.out HW_.out [(7, some 55, false), (8, some 63, false), (9, some 64, false)] #[true, true, true, true, true, true, true, true, true, true, true, false, false] (a' := ?_) (by kernel_rfl) rfl hHeld ?_ ?_
            rotate_left
            ·repeat
              refine HBulk.RunsM.cons (v := ?_) (a1 := ?_) rfl rfl (fun _ _ _ h => h) (by rfl) ?_ ?_ ?_
              rotate_left
              ·intro w' hS_
               go_simp
               with_reducible rfl
              rotate_left
              ·simp only [Act.put, List.setIfInBounds_toArray, List.set_cons_zero, List.set_cons_succ, i64_w, i32_w]
               rfl
             exact HBulk.RunsM.nil
            exact norm_ (by simp only [putAll, Act.put, List.setIfInBounds_toArray, List.set_cons_zero, List.set_cons_succ]) (hCont (v225, v228, gb231) _ ⟨(zr HO194.out), (zr HO200.out), (by (with_reducible repeat (first | apply Kd.N_alloc | apply Kd.N_drewN | apply Kd.N_drew)); exact Kd.N_mono HO206.out (fun _ hk => ⟨hk.1.1.1.1, ⟨hk.1.1.1.2.1, ⟨hk.1.1.1.2.2.1, ⟨hk.1.1.1.2.2.2.1, ⟨hk.1.2, ⟨hk.2, ⟨hk.1.1.1.2.2.2.2.1, ⟨hk.1.1.1.2.2.2.2.2, hk.1.1.2⟩⟩⟩⟩⟩⟩⟩⟩)), (by (with_reducible repeat (first | apply Kd.R_alloc | apply Kd.R_drewN | apply Kd.R_drew)); exact Kd.R_mono HO209.out (fun _ hk => ⟨hk.1.1, ⟨hk.1.2, hk.2⟩⟩)), (by (with_reducible repeat (first | apply Kd.R_alloc | apply Kd.R_drewN | apply Kd.R_drew)); exact Kd.R_mono HO212.out (fun _ hk => ⟨hk.1.1, ⟨hk.1.2, hk.2⟩⟩)), (by (with_reducible repeat (first | apply Kd.R_alloc | apply Kd.R_drewN | apply Kd.R_drew)); exact Kd.R_mono HO226.out (fun _ hk => ⟨hk.1.2, ⟨hk.2, hk.1.1⟩⟩)), (by (with_reducible repeat (first | apply Kd.R_alloc | apply Kd.R_drewN | apply Kd.R_drew)); exact Kd.R_mono HO229.out (fun _ hk => ⟨hk.1.2, ⟨hk.2, hk.1.1⟩⟩)), (zk BK173.out), (zk BK214.out), (zk BK231.out), GW231.out, GE231.out, NB173_231.out, NB231_173.out, NB214_231.out, NB231_214.out, (zb3 HB.out GE173.out GE214.out GE231.out)⟩)
          rintro ⟨v225, v228, gb231⟩ w118 ⟨h0_, h1_, h2_, h3_, h4_, h5_, h6_, h7_, h8_, h9_, h10_, h11_, h12_, h13_, h14_, h15_, h16_⟩
          have n0_ : Aside0 (Kd.R Kd.string 9 w118 w.heap.size (fun k_ => some k_ ≠ (.slice Ao99 t198.length co99 : Value).ownBlock) (.slice Ao96 t192.length co96) t192) := ⟨h0_⟩
          have n1_ : Aside0 (Kd.R Kd.string 9 w118 w.heap.size (fun k_ => some k_ ≠ (.slice Ao96 t192.length co96 : Value).ownBlock) (.slice Ao99 t198.length co99) t198) := ⟨h1_⟩
          have n2_ : Aside0 (Kd.N k77 77 w118 w.heap.size (fun k_ => some k_ ≠ (.slice Ao96 t192.length co96 : Value).ownBlock ∧ some k_ ≠ (.slice Ao99 t198.length co99 : Value).ownBlock ∧ some k_ ≠ (.slice Ao108 t207.length co108 : Value).ownBlock ∧ some k_ ≠ (.slice Ao111 t210.length co111 : Value).ownBlock ∧ some k_ ≠ (v225 : Value).ownBlock ∧ some k_ ≠ (v228 : Value).ownBlock ∧ k_ ≠ gb173 ∧ k_ ≠ gb214 ∧ k_ ≠ gb231) (.slice Ao105 y204.length co105) y204) := ⟨h2_⟩
          have n3_ : Aside0 (Kd.R (Kd.int .u8) 5 w118 w.heap.size (fun k_ => some k_ ≠ (.slice Ao111 t210.length co111 : Value).ownBlock ∧ some k_ ≠ (v225 : Value).ownBlock ∧ some k_ ≠ (v228 : Value).ownBlock) (.slice Ao108 t207.length co108) t207) := ⟨h3_⟩
          have n4_ : Aside0 (Kd.R (Kd.int .u8) 5 w118 w.heap.size (fun k_ => some k_ ≠ (.slice Ao108 t207.length co108 : Value).ownBlock ∧ some k_ ≠ (v225 : Value).ownBlock ∧ some k_ ≠ (v228 : Value).ownBlock) (.slice Ao111 t210.length co111) t210) := ⟨h4_⟩
          have n5_ : Aside0 (Kd.R (Kd.int .u8) 5 w118 w.heap.size (fun k_ => some k_ ≠ (.slice Ao108 t207.length co108 : Value).ownBlock ∧ some k_ ≠ (.slice Ao111 t210.length co111 : Value).ownBlock ∧ some k_ ≠ (v228 : Value).ownBlock) v225 t224) := ⟨h5_⟩
          have n6_ : Aside0 (Kd.R (Kd.int .u8) 5 w118 w.heap.size (fun k_ => some k_ ≠ (.slice Ao108 t207.length co108 : Value).ownBlock ∧ some k_ ≠ (.slice Ao111 t210.length co111 : Value).ownBlock ∧ some k_ ≠ (v225 : Value).ownBlock) v228 t227) := ⟨h6_⟩
          have n7_ : Aside0 (w118.heap[gb173]? = some (.cells #[.slice none 0 0, .slice none 0 0] 44 (0, 0))) := ⟨h7_⟩
          have n8_ : Aside0 (w118.heap[gb214]? = some (.cells #[.slice Ao108 t207.length co108, .slice Ao111 t210.length co111] 44 (0, 0))) := ⟨h8_⟩
          have n9_ : Aside0 (w118.heap[gb231]? = some (.cells #[.slice none 0 0, .slice none 0 0] 44 (0, 0))) := ⟨h9_⟩
          have n10_ : Aside0 (w.heap.size ≤ gb231) := ⟨h10_⟩
          have n11_ : Aside0 (w.heap.size ≤ gb231) := ⟨h11_⟩
          have n12_ : Aside0 (gb173 ≠ gb231) := ⟨h12_⟩
          have n13_ : Aside0 (gb231 ≠ gb173) := ⟨h13_⟩
          have n14_ : Aside0 (gb214 ≠ gb231) := ⟨h14_⟩
          have n15_ : Aside0 (gb231 ≠ gb214) := ⟨h15_⟩
          have n16_ : Aside0 (Below w.heap.size w w118) := ⟨h16_⟩
          clear HO194
          clear HO200
          clear HO206
          clear HO209
          clear HO212
          clear BK173
          clear BK214
          clear HB
          clear h0_ h1_ h2_ h3_ h4_ h5_ h6_ h7_ h8_ h9_ h10_ h11_ h12_ h13_ h14_ h15_ h16_
          have HO194 := n0_
          have HO200 := n1_
          have HO206 := n2_
          have HO209 := n3_
          have HO212 := n4_
          have HO226 := n5_
          have HO229 := n6_
          have BK173 := n7_
          have BK214 := n8_
          have BK231 := n9_
          have GW231 := n10_
          have GE231 := n11_
          have NB173_231 := n12_
          have NB231_173 := n13_
          have NB214_231 := n14_
          have NB231_214 := n15_
          have HB := n16_
          clear n0_ n1_ n2_ n3_ n4_ n5_ n6_ n7_ n8_ n9_ n10_ n11_ n12_ n13_ n14_ n15_ n16_
          have hHeld := trivial
          obtain ⟨Ao119, co119, eo119⟩ := Kd.R_slice HO226.out
          (first | subst eo119 | (injection eo119 with f1_ f2_ f3_; have f4_ := f1_.symm; have f5_ := f3_.symm; clear f1_ f2_ f3_; subst f4_; subst f5_))
          obtain ⟨Ao121, co121, eo121⟩ := Kd.R_slice HO229.out
          (first | subst eo121 | (injection eo121 with f1_ f2_ f3_; have f4_ := f1_.symm; have f5_ := f3_.symm; clear f1_ f2_ f3_; subst f4_; subst f5_))
          refine norm_ (a' := ?_) ?_ ?_
          rotate_left
          ·simp only [putAll, Act.put, List.setIfInBounds_toArray, List.set_cons_zero, List.set_cons_succ]
           rfl
          refine one_ (i := 11) (N := none) #[true, true, true, true, true, true, true, true, true, true, true, true, false] rfl rfl (one_of HT_.out (by kernel_rfl)) (by decide) (fun K hK => ?_)
          have hs120 : w118.cell? ⟨gb231, 0, none⟩ = some (.slice none 0 0) := (blk_cell BK231.out 0).trans rfl
          have hfs120 := blk_frozen BK231.out 0
          have hns120_0 := NB173_231.out
          have hns120_1 := NB214_231.out
          have hms120_0 := NB231_173.out
          have hms120_1 := NB231_214.out
          have hs122 : w118.cell? ⟨gb231, 1, none⟩ = some (.slice none 0 0) := (blk_cell BK231.out 1).trans rfl
          have hfs122 := blk_frozen BK231.out 1
          have hns122_0 := NB173_231.out
          have hns122_1 := NB214_231.out
          have hms122_0 := NB231_173.out
          have hms122_1 := NB231_214.out
          refine skip_ (w1 := ?_) (by rfl) rfl ?_ ?_
          rotate_left
          ·go_simp
           rfl
          refine hK.out _ _ trivial (fun hHeld => ?_)
          clear hK K
          refine pure_ (i := 12) (N := some 10) (v := ?_) (a' := ?_) #[true, true, true, true, true, true, true, true, true, true, true, true, true] rfl rfl (any_of HT_.out (by kernel_rfl)) (fun _ _ _ h => h) (Or.inl ⟨by rfl, ?_⟩) ?_ ?_
          rotate_left
          ·intro w'
           go_simp
           with_reducible rfl
          rotate_left
          ·simp only [Act.put, List.setIfInBounds_toArray, List.set_cons_zero, List.set_cons_succ, i64_w, i32_w]
           rfl
          refine done_ (done_of HT_.out (by kernel_rfl)) ?_
          try go_wp2
          have n0_ : Aside0 (Kd.R Kd.string 9 ((w118.setCell ⟨gb231, 0, none⟩ (.slice Ao119 t224.length co119)).setCell ⟨gb231, 1, none⟩ (.slice Ao121 t227.length co121)) w.heap.size (fun k_ => some k_ ≠ (.slice Ao99 t198.length co99 : Value).ownBlock) (.slice Ao96 t192.length co96) t192) := ⟨by (with_reducible repeat (first | apply Kd.R_alloc | apply Kd.R_drewN | apply Kd.R_drew)); exact Kd.R_mono (Kd.R_far (p := ⟨gb231, 1, none⟩) (Kd.R_far (p := ⟨gb231, 0, none⟩) (Kd.R_types HO194.out BK231.out (by decide)) (fun _ hk => hk.2) (.slice Ao119 t224.length co119)) (fun _ hk => hk.2) (.slice Ao121 t227.length co121)) (fun _ hk => hk.1)⟩
          have n1_ : Aside0 (Kd.R Kd.string 9 ((w118.setCell ⟨gb231, 0, none⟩ (.slice Ao119 t224.length co119)).setCell ⟨gb231, 1, none⟩ (.slice Ao121 t227.length co121)) w.heap.size (fun k_ => some k_ ≠ (.slice Ao96 t192.length co96 : Value).ownBlock) (.slice Ao99 t198.length co99) t198) := ⟨by (with_reducible repeat (first | apply Kd.R_alloc | apply Kd.R_drewN | apply Kd.R_drew)); exact Kd.R_mono (Kd.R_far (p := ⟨gb231, 1, none⟩) (Kd.R_far (p := ⟨gb231, 0, none⟩) (Kd.R_types HO200.out BK231.out (by decide)) (fun _ hk => hk.2) (.slice Ao119 t224.length co119)) (fun _ hk => hk.2) (.slice Ao121 t227.length co121)) (fun _ hk => hk.1)⟩
          have n2_ : Aside0 (Kd.N k77 77 ((w118.setCell ⟨gb231, 0, none⟩ (.slice Ao119 t224.length co119)).setCell ⟨gb231, 1, none⟩ (.slice Ao121 t227.length co121)) w.heap.size (fun k_ => some k_ ≠ (.slice Ao96 t192.length co96 : Value).ownBlock ∧ some k_ ≠ (.slice Ao99 t198.length co99 : Value).ownBlock ∧ some k_ ≠ (.slice Ao108 t207.length co108 : Value).ownBlock ∧ some k_ ≠ (.slice Ao111 t210.length co111 : Value).ownBlock ∧ some k_ ≠ (.slice Ao119 t224.length co119 : Value).ownBlock ∧ some k_ ≠ (.slice Ao121 t227.length co121 : Value).ownBlock ∧ k_ ≠ gb173 ∧ k_ ≠ gb214 ∧ k_ ≠ gb231) (.slice Ao105 y204.length co105) y204) := ⟨by (with_reducible repeat (first | apply Kd.N_alloc | apply Kd.N_drewN | apply Kd.N_drew)); exact Kd.N_mono (Kd.N_far (p := ⟨gb231, 1, none⟩) (Kd.N_far (p := ⟨gb231, 0, none⟩) (Kd.N_mono HO206.out (fun k_ hk => (⟨hk, hk.2.2.2.2.2.2.2.2⟩ : _ ∧ k_ ≠ gb231))) (fun _ hk => hk.2) (.slice Ao119 t224.length co119)) (fun _ hk => hk.2) (.slice Ao121 t227.length co121)) (fun _ hk => ⟨hk.1.1, ⟨hk.1.2.1, ⟨hk.1.2.2.1, ⟨hk.1.2.2.2.1, ⟨hk.1.2.2.2.2.1, ⟨hk.1.2.2.2.2.2.1, ⟨hk.1.2.2.2.2.2.2.1, ⟨hk.1.2.2.2.2.2.2.2.1, hk.1.2.2.2.2.2.2.2.2⟩⟩⟩⟩⟩⟩⟩⟩)⟩
          have n3_ : Aside0 (Kd.R (Kd.int .u8) 5 ((w118.setCell ⟨gb231, 0, none⟩ (.slice Ao119 t224.length co119)).setCell ⟨gb231, 1, none⟩ (.slice Ao121 t227.length co121)) w.heap.size (fun k_ => some k_ ≠ (.slice Ao111 t210.length co111 : Value).ownBlock ∧ some k_ ≠ (.slice Ao119 t224.length co119 : Value).ownBlock ∧ some k_ ≠ (.slice Ao121 t227.length co121 : Value).ownBlock) (.slice Ao108 t207.length co108) t207) := ⟨by (with_reducible repeat (first | apply Kd.R_alloc | apply Kd.R_drewN | apply Kd.R_drew)); exact Kd.R_mono (Kd.R_far (p := ⟨gb231, 1, none⟩) (Kd.R_far (p := ⟨gb231, 0, none⟩) (Kd.R_types HO209.out BK231.out (by decide)) (fun _ hk => hk.2) (.slice Ao119 t224.length co119)) (fun _ hk => hk.2) (.slice Ao121 t227.length co121)) (fun _ hk => ⟨hk.1.1, ⟨hk.1.2.1, hk.1.2.2⟩⟩)⟩
          have n4_ : Aside0 (Kd.R (Kd.int .u8) 5 ((w118.setCell ⟨gb231, 0, none⟩ (.slice Ao119 t224.length co119)).setCell ⟨gb231, 1, none⟩ (.slice Ao121 t227.length co121)) w.heap.size (fun k_ => some k_ ≠ (.slice Ao108 t207.length co108 : Value).ownBlock ∧ some k_ ≠ (.slice Ao119 t224.length co119 : Value).ownBlock ∧ some k_ ≠ (.slice Ao121 t227.length co121 : Value).ownBlock) (.slice Ao111 t210.length co111) t210) := ⟨by (with_reducible repeat (first | apply Kd.R_alloc | apply Kd.R_drewN | apply Kd.R_drew)); exact Kd.R_mono (Kd.R_far (p := ⟨gb231, 1, none⟩) (Kd.R_far (p := ⟨gb231, 0, none⟩) (Kd.R_types HO212.out BK231.out (by decide)) (fun _ hk => hk.2) (.slice Ao119 t224.length co119)) (fun _ hk => hk.2) (.slice Ao121 t227.length co121)) (fun _ hk => ⟨hk.1.1, ⟨hk.1.2.1, hk.1.2.2⟩⟩)⟩
          have n5_ : Aside0 (Kd.R (Kd.int .u8) 5 ((w118.setCell ⟨gb231, 0, none⟩ (.slice Ao119 t224.length co119)).setCell ⟨gb231, 1, none⟩ (.slice Ao121 t227.length co121)) w.heap.size (fun k_ => some k_ ≠ (.slice Ao108 t207.length co108 : Value).ownBlock ∧ some k_ ≠ (.slice Ao111 t210.length co111 : Value).ownBlock ∧ some k_ ≠ (.slice Ao121 t227.length co121 : Value).ownBlock) (.slice Ao119 t224.length co119) t224) := ⟨by (with_reducible repeat (first | apply Kd.R_alloc | apply Kd.R_drewN | apply Kd.R_drew)); exact Kd.R_mono (Kd.R_far (p := ⟨gb231, 1, none⟩) (Kd.R_far (p := ⟨gb231, 0, none⟩) (Kd.R_types HO226.out BK231.out (by decide)) (fun _ hk => hk.2) (.slice Ao119 t224.length co119)) (fun _ hk => hk.2) (.slice Ao121 t227.length co121)) (fun _ hk => ⟨hk.1.1, ⟨hk.1.2.1, hk.1.2.2⟩⟩)⟩
          have n6_ : Aside0 (Kd.R (Kd.int .u8) 5 ((w118.setCell ⟨gb231, 0, none⟩ (.slice Ao119 t224.length co119)).setCell ⟨gb231, 1, none⟩ (.slice Ao121 t227.length co121)) w.heap.size (fun k_ => some k_ ≠ (.slice Ao108 t207.length co108 : Value).ownBlock ∧ some k_ ≠ (.slice Ao111 t210.length co111 : Value).ownBlock ∧ some k_ ≠ (.slice Ao119 t224.length co119 : Value).ownBlock) (.slice Ao121 t227.length co121) t227) := ⟨by (with_reducible repeat (first | apply Kd.R_alloc | apply Kd.R_drewN | apply Kd.R_drew)); exact Kd.R_mono (Kd.R_far (p := ⟨gb231, 1, none⟩) (Kd.R_far (p := ⟨gb231, 0, none⟩) (Kd.R_types HO229.out BK231.out (by decide)) (fun _ hk => hk.2) (.slice Ao119 t224.length co119)) (fun _ hk => hk.2) (.slice Ao121 t227.length co121)) (fun _ hk => ⟨hk.1.1, ⟨hk.1.2.1, hk.1.2.2⟩⟩)⟩
          have n7_ : Aside0 (((w118.setCell ⟨gb231, 0, none⟩ (.slice Ao119 t224.length co119)).setCell ⟨gb231, 1, none⟩ (.slice Ao121 t227.length co121)).heap[gb173]? = some (.cells #[.slice none 0 0, .slice none 0 0] 44 (0, 0))) := ⟨by (with_reducible repeat (first | refine blk_drewN ?_ _ | refine blk_drew ?_ | refine blk_alloc ?_ _)); refine blk_far ?_ NB173_231.out _; (with_reducible repeat (first | refine blk_drewN ?_ _ | refine blk_drew ?_ | refine blk_alloc ?_ _)); refine blk_far ?_ NB173_231.out _; (with_reducible repeat (first | refine blk_drewN ?_ _ | refine blk_drew ?_ | refine blk_alloc ?_ _)); exact BK173.out⟩
          have n8_ : Aside0 (((w118.setCell ⟨gb231, 0, none⟩ (.slice Ao119 t224.length co119)).setCell ⟨gb231, 1, none⟩ (.slice Ao121 t227.length co121)).heap[gb214]? = some (.cells #[.slice Ao108 t207.length co108, .slice Ao111 t210.length co111] 44 (0, 0))) := ⟨by (with_reducible repeat (first | refine blk_drewN ?_ _ | refine blk_drew ?_ | refine blk_alloc ?_ _)); refine blk_far ?_ NB214_231.out _; (with_reducible repeat (first | refine blk_drewN ?_ _ | refine blk_drew ?_ | refine blk_alloc ?_ _)); refine blk_far ?_ NB214_231.out _; (with_reducible repeat (first | refine blk_drewN ?_ _ | refine blk_drew ?_ | refine blk_alloc ?_ _)); exact BK214.out⟩
          have n9_ : Aside0 (((w118.setCell ⟨gb231, 0, none⟩ (.slice Ao119 t224.length co119)).setCell ⟨gb231, 1, none⟩ (.slice Ao121 t227.length co121)).heap[gb231]? = some (.cells #[.slice Ao119 t224.length co119, .slice Ao121 t227.length co121] 44 (0, 0))) := ⟨by (with_reducible repeat (first | refine blk_drewN ?_ _ | refine blk_drew ?_ | refine blk_alloc ?_ _)); refine blk_put (cs := #[.slice Ao119 t224.length co119, .slice none 0 0]) ?_ 1 _ rfl; (with_reducible repeat (first | refine blk_drewN ?_ _ | refine blk_drew ?_ | refine blk_alloc ?_ _)); refine blk_put (cs := #[.slice none 0 0, .slice none 0 0]) ?_ 0 _ rfl; (with_reducible repeat (first | refine blk_drewN ?_ _ | refine blk_drew ?_ | refine blk_alloc ?_ _)); exact BK231.out⟩
          have n10_ : Aside0 (Below w.heap.size w ((w118.setCell ⟨gb231, 0, none⟩ (.slice Ao119 t224.length co119)).setCell ⟨gb231, 1, none⟩ (.slice Ao121 t227.length co121))) := ⟨by repeat (first | (with_reducible first | exact HB.out | apply below_alloc | apply pw_below_drewN | apply below_drew1 | refine below_set ?_ GE173.out | refine below_set ?_ GE214.out | refine below_set ?_ GE231.out) | exact HB.out)⟩
          (try clear HO194)
          (try clear HO200)
          (try clear HO206)
          (try clear HO209)
          (try clear HO212)
          (try clear HO226)
          (try clear HO229)
          (try clear BK173)
          (try clear BK214)
          (try clear BK231)
          (try clear HB)
          generalize ((w118.setCell ⟨gb231, 0, none⟩ (.slice Ao119 t224.length co119)).setCell ⟨gb231, 1, none⟩ (.slice Ao121 t227.length co121)) = w123 at n0_ n1_ n2_ n3_ n4_ n5_ n6_ n7_ n8_ n9_ n10_ ⊢
          have HO194 := n0_
          have HO200 := n1_
          have HO206 := n2_
          have HO209 := n3_
          have HO212 := n4_
          have HO226 := n5_
          have HO229 := n6_
          have BK173 := n7_
          have BK214 := n8_
          have BK231 := n9_
          have HB := n10_
          clear n0_ n1_ n2_ n3_ n4_ n5_ n6_ n7_ n8_ n9_ n10_
          have n0_ := Aside0.mk (Kd.R_drew HO194.out)
          have n1_ := Aside0.mk (Kd.R_drew HO200.out)
          have n2_ := Aside0.mk (Kd.N_drew HO206.out)
          have n3_ := Aside0.mk (Kd.R_drew HO209.out)
          have n4_ := Aside0.mk (Kd.R_drew HO212.out)
          have n5_ := Aside0.mk (Kd.R_drew HO226.out)
          have n6_ := Aside0.mk (Kd.R_drew HO229.out)
          have n7_ := Aside0.mk (blk_drew BK173.out)
          have n8_ := Aside0.mk (blk_drew BK214.out)
          have n9_ := Aside0.mk (blk_drew BK231.out)
          have n10_ := Aside0.mk (below_drew1 HB.out)
          clear HO194
          clear HO200
          clear HO206
          clear HO209
          clear HO212
          clear HO226
          clear HO229
          clear BK173
          clear BK214
          clear BK231
          clear HB
          have HO194 := n0_
          have HO200 := n1_
          have HO206 := n2_
          have HO209 := n3_
          have HO212 := n4_
          have HO226 := n5_
          have HO229 := n6_
          have BK173 := n7_
          have BK214 := n8_
          have BK231 := n9_
          have HB := n10_
          clear n0_ n1_ n2_ n3_ n4_ n5_ n6_ n7_ n8_ n9_ n10_
          have q125 : (t215 : Int) ≤ ((l0.length : Int) : Int) := of_decide_eq_true (by first | (with_reducible assumption) | assumption)
          obtain ⟨i0125, hi0125, _, hsz125, _⟩ := info_parts info41
          have hroom125 : l0.length ≤ c0 := HC0.out
          have hC125 : Kd.C (Kd.slice 5 (Kd.int .u8)) _ A0 l0.length l0 := HR0.out
          have q0125 : (0 : Int) ≤ (t215 : Int) := of_decide_eq_true (by first | (with_reducible assumption) | assumption)
          have hcut125 := cut_from (P := Tryd.prog) 34 41 .i64 Tryd.underlying34 hi0125 1 hsz125 A0 l0.length c0 t215 q0125 q125
          have hr125 := Kd.C_drop (m := (t215 : Int).toNat) (c := c0) hC125 (by omega) hroom125
          obtain ⟨A125, hA125⟩ : ∃ A_, A_ = (if c0 = (t215 : Int).toNat then A0 else (A0 : Option Addr).map (·.add ((t215 : Int).toNat * 1))) := ⟨_, rfl⟩
          obtain ⟨c125, hc125⟩ : ∃ c_, c_ = c0 - (t215 : Int).toNat := ⟨_, rfl⟩
          have hy125 : y232.length = l0.length - (t215 : Int).toNat := (by rw [Ny232.out, List.length_drop] <;> omega)
          rw [show (l0).drop (t215 : Int).toNat = y232 from Ny232.out.symm] at hr125
          replace hr125 : Kd.C (Kd.slice 5 (Kd.int .u8)) _ A125 y232.length y232 := (by rw [hA125]; exact hr125)
          rw [← hy125, ← hA125, ← hc125] at hcut125
          have HR235 := Aside0.mk hr125
          have HC235 := Aside0.mk (show y232.length ≤ c125 from by rw [hy125, hc125]; exact Nat.sub_le_sub_right hroom125 _)
          clear hr125 hC125 hroom125 hi0125 hsz125 hc125
          have KY125 := Aside0.mk hy125
          have KA125 := Aside0.mk hA125
          clear hy125 hA125
          replace q125 := eq_true q125
          have q126 : (t215 : Int) ≤ ((l1.length : Int) : Int) := of_decide_eq_true (by first | (with_reducible assumption) | assumption)
          obtain ⟨i0126, hi0126, _, hsz126, _⟩ := info_parts info41
          have hroom126 : l1.length ≤ c1 := HC1.out
          have hC126 : Kd.C (Kd.slice 5 (Kd.int .u8)) _ A1 l1.length l1 := HR1.out
          have q0126 : (0 : Int) ≤ (t215 : Int) := of_decide_eq_true (by first | (with_reducible assumption) | assumption)
          have hcut126 := cut_from (P := Tryd.prog) 34 41 .i64 Tryd.underlying34 hi0126 1 hsz126 A1 l1.length c1 t215 q0126 q126
          have hr126 := Kd.C_drop (m := (t215 : Int).toNat) (c := c1) hC126 (by omega) hroom126
          obtain ⟨A126, hA126⟩ : ∃ A_, A_ = (if c1 = (t215 : Int).toNat then A1 else (A1 : Option Addr).map (·.add ((t215 : Int).toNat * 1))) := ⟨_, rfl⟩
          obtain ⟨c126, hc126⟩ : ∃ c_, c_ = c1 - (t215 : Int).toNat := ⟨_, rfl⟩
          have hy126 : y236.length = l1.length - (t215 : Int).toNat := (by rw [Ny236.out, List.length_drop] <;> omega)
          rw [show (l1).drop (t215 : Int).toNat = y236 from Ny236.out.symm] at hr126
          replace hr126 : Kd.C (Kd.slice 5 (Kd.int .u8)) _ A126 y236.length y236 := (by rw [hA126]; exact hr126)
          rw [← hy126, ← hA126, ← hc126] at hcut126
          have HR239 := Aside0.mk hr126
          have HC239 := Aside0.mk (show y236.length ≤ c126 from by rw [hy126, hc126]; exact Nat.sub_le_sub_right hroom126 _)
          clear hr126 hC126 hroom126 hi0126 hsz126 hc126
          have KY126 := Aside0.mk hy126
          have KA126 := Aside0.mk hA126
          clear hy126 hA126
          replace q126 := eq_true q126
          refine start_ (n := 11) (S := fun w' => True) (ds := []) #[false, false, false, false, false, false, false, false, false, false, false] (by kernel_rfl) rfl rfl trivial (fun hHeld => ?_); refine with_tabW clash_Two.tab12 clash_Two.bits12 (fun HT_ HW_ => ?_)
          generalize w123.drew = w124 at HO194 HO200 HO206 HO209 HO212 HO226 HO229 BK173 BK214 BK231 HB HR235 HR239 hHeld ⊢
          refine HBulk.bulkT (fuel := 5) HT_.out HW_.out [(0, some 67, false), (1, some 68, false), (2, some 69, false), (3, some 70, false), (4, some 71, false), (5, some 72, false)] #[true, true, true, true, true, true, false, false, false, false, false] (a' := ?_) (by kernel_rfl) rfl hHeld ?_ ?_
          rotate_left
          ·repeat
            refine HBulk.RunsM.cons (v := ?_) (a1 := ?_) rfl rfl (fun _ _ _ h => h) (by rfl) ?_ ?_ ?_
            rotate_left
            ·intro w' hS_
             go_simp
             with_reducible rfl
            rotate_left
            ·simp only [Act.put, List.setIfInBounds_toArray, List.set_cons_zero, List.set_cons_succ, i64_w, i32_w]
             rfl
           exact HBulk.RunsM.nil
          refine one_ (i := 6) (N := some 73) #[true, true, true, true, true, true, true, false, false, false, false] rfl rfl (one_of HT_.out (by kernel_rfl)) (by decide) (fun K hK => ?_)
          refine goes_ Tryd.func37 (by kernel_rfl) rfl #[.slice A125 y232.length c125, .slice A126 y236.length c126] (by rfl) rfl rfl zm ?_
          with_reducible refine (ih kj2 (by have := HJ2.out; omega) _ _ y232 _ _ y236 t240 t243 t246 _ ?side5 ?side1 ?side2 ?side3 ?side4 A94.out).mono ?_
          (case side1 => exact zc (Kd.C_below HR235.out HB.out))
          (case side2 => exact HC235.out)
          (case side3 => exact zc (Kd.C_below HR239.out HB.out))
          (case side4 => exact HC239.out)
          (case side5 => exact gw_step hG_ (zb3 HB.out GE173.out GE214.out GE231.out))
          rintro e w127 ⟨v241, v244, rfl, ho0, ho1, hb⟩
          refine ⟨_, rfl, ?_⟩
          have n0_ := zR HO194 hb
          have n1_ := zR HO200 hb
          have n2_ := Aside0.mk (Kd.N_mono (Kd.N_told (Kd.N_told (Kd.N_old (by (with_reducible repeat (first | apply Kd.N_alloc | apply Kd.N_drewN | apply Kd.N_drew)); exact HO206.out) hb) (Kd.R_base ho0)) (Kd.R_base ho1)) (fun _ h_ => h_.1))
          have n3_ := Aside0.mk (Kd.R_mono (Kd.R_told (Kd.R_told (Kd.R_old (zr HO209.out) hb) (Kd.R_base ho0)) (Kd.R_base ho1)) (fun _ h_ => h_.1))
          have n4_ := Aside0.mk (Kd.R_mono (Kd.R_told (Kd.R_told (Kd.R_old (zr HO212.out) hb) (Kd.R_base ho0)) (Kd.R_base ho1)) (fun _ h_ => h_.1))
          have n5_ := Aside0.mk (Kd.R_mono (Kd.R_told (Kd.R_told (Kd.R_old (zr HO226.out) hb) (Kd.R_base ho0)) (Kd.R_base ho1)) (fun _ h_ => h_.1))
          have n6_ := Aside0.mk (Kd.R_mono (Kd.R_told (Kd.R_told (Kd.R_old (zr HO229.out) hb) (Kd.R_base ho0)) (Kd.R_base ho1)) (fun _ h_ => h_.1))
          have n7_ := Aside0.mk (Kd.R_lower (Kd.R_new' (Kd.R_new' (Kd.R_new' (Kd.R_new' ho0 (Kd.R_lt (zr HO209.out))) (Kd.R_lt (zr HO212.out))) (Kd.R_lt (zr HO226.out))) (Kd.R_lt (zr HO229.out))) (below_size (zb3 HB.out GE173.out GE214.out GE231.out)))
          have n8_ := Aside0.mk (Kd.R_lower (Kd.R_new' (Kd.R_new' (Kd.R_new' (Kd.R_new' ho1 (Kd.R_lt (zr HO209.out))) (Kd.R_lt (zr HO212.out))) (Kd.R_lt (zr HO226.out))) (Kd.R_lt (zr HO229.out))) (below_size (zb3 HB.out GE173.out GE214.out GE231.out)))
          have n9_ := zK BK173 hb
          have n10_ := zK BK214 hb
          have n11_ := zK BK231 hb
          have n12_ := Aside0.mk (below_step (zb3 HB.out GE173.out GE214.out GE231.out) hb)
          clear HO194
          clear HO200
          clear HO206
          clear HO209
          clear HO212
          clear HO226
          clear HO229
          clear BK173
          clear BK214
          clear BK231
          clear HB
          have HO194 := n0_
          have HO200 := n1_
          have HO206 := n2_
          have HO209 := n3_
          have HO212 := n4_
          have HO226 := n5_
          have HO229 := n6_
          have HO242 := n7_
          have HO245 := n8_
          have BK173 := n9_
          have BK214 := n10_
          have BK231 := n11_
          have HB := n12_
          clear n0_ n1_ n2_ n3_ n4_ n5_ n6_ n7_ n8_ n9_ n10_ n11_ n12_
          (try clear hb)
          (try clear hb2)
          (try clear hk)
          (try clear hi)
          (try clear ho0)
          (try clear ho1)
          obtain ⟨Ao128, co128, eo128⟩ := Kd.R_slice HO242.out
          (first | subst eo128 | (injection eo128 with f1_ f2_ f3_; have f4_ := f1_.symm; have f5_ := f3_.symm; clear f1_ f2_ f3_; subst f4_; subst f5_))
          obtain ⟨Ao130, co130, eo130⟩ := Kd.R_slice HO245.out
          (first | subst eo130 | (injection eo130 with f1_ f2_ f3_; have f4_ := f1_.symm; have f5_ := f3_.symm; clear f1_ f2_ f3_; subst f4_; subst f5_))
          refine hK.out _ _ trivial (fun hHeld => ?_)
          clear hK K
          refine norm_ (a' := ?_) ?_ ?_
          rotate_left
          ·show Act.put _ (some 73) _ = _
           simp only [Act.put, List.setIfInBounds_toArray, List.set_cons_zero, List.set_cons_succ, i64_w, i32_w]
           rfl
          refine HBulk.bulkT (fuel := 2) HT_.out HW_.out [(7, some 74, false), (8, some 75, false)] #[true, true, true, true, true, true, true, true, true, false, false] (a' := ?_) (by kernel_rfl) rfl hHeld ?_ ?_
          rotate_left
          ·repeat
            refine HBulk.RunsM.cons (v := ?_) (a1 := ?_) rfl rfl (fun _ _ _ h => h) (by rfl) ?_ ?_ ?_
            rotate_left
            ·intro w' hS_
             go_simp
             with_reducible rfl
            rotate_left
            ·simp only [Act.put, List.setIfInBounds_toArray, List.set_cons_zero, List.set_cons_succ, i64_w, i32_w]
             rfl
           exact HBulk.RunsM.nil
          refine one_ (i := 9) (N := none) #[true, true, true, true, true, true, true, true, true, true, false] rfl rfl (one_of HT_.out (by kernel_rfl)) (by decide) (fun K hK => ?_)
          have hs129 : w127.cell? ⟨gb173, 0, none⟩ = some (.slice none 0 0) := (blk_cell BK173.out 0).trans rfl
          have hfs129 := blk_frozen BK173.out 0
          have hns129_1 := NB214_173.out
          have hns129_2 := NB231_173.out
          have hms129_1 := NB173_214.out
          have hms129_2 := NB173_231.out
          have hs131 : w127.cell? ⟨gb173, 1, none⟩ = some (.slice none 0 0) := (blk_cell BK173.out 1).trans rfl
          have hfs131 := blk_frozen BK173.out 1
          have hns131_1 := NB214_173.out
          have hns131_2 := NB231_173.out
          have hms131_1 := NB173_214.out
          have hms131_2 := NB173_231.out
          refine skip_ (w1 := ?_) (by rfl) rfl ?_ ?_
          rotate_left
          ·go_simp
           rfl
          refine hK.out _ _ trivial (fun hHeld => ?_)
          clear hK K
          refine pure_ (i := 10) (N := some 5) (v := ?_) (a' := ?_) #[true, true, true, true, true, true, true, true, true, true, true] rfl rfl (any_of HT_.out (by kernel_rfl)) (fun _ _ _ h => h) (Or.inl ⟨by rfl, ?_⟩) ?_ ?_
          rotate_left
          ·intro w'
           go_simp
           with_reducible rfl
          rotate_left
          ·simp only [Act.put, List.setIfInBounds_toArray, List.set_cons_zero, List.set_cons_succ, i64_w, i32_w]
           rfl
          refine done_ (done_of HT_.out (by kernel_rfl)) ?_
          try go_wp2
          refine bodyPost_ret (results_ct rfl _ _ gb173 44 #[.slice Ao128 t240.length co128, .slice Ao130 t243.length co130] (0, 0) _ rfl (by (with_reducible repeat (first | refine blk_drewN ?_ _ | refine blk_drew ?_ | refine blk_alloc ?_ _)); refine blk_put (cs := #[.slice Ao128 t240.length co128, .slice none 0 0]) ?_ 1 _ rfl; (with_reducible repeat (first | refine blk_drewN ?_ _ | refine blk_drew ?_ | refine blk_alloc ?_ _)); refine blk_put (cs := #[.slice none 0 0, .slice none 0 0]) ?_ 0 _ rfl; (with_reducible repeat (first | refine blk_drewN ?_ _ | refine blk_drew ?_ | refine blk_alloc ?_ _)); exact BK173.out) Tryd.underlying44 rfl (by kernel_rfl)) rfl ?_
          exact ⟨_, _, by first | rfl | (simp [errW_none, errW_some] <;> rfl) | (simp [*, errW_none, errW_some] <;> rfl), by (with_reducible repeat (first | apply Kd.R_alloc | apply Kd.R_drewN | apply Kd.R_drew)); exact Kd.R_mono (Kd.R_far (p := ⟨gb173, 1, none⟩) (Kd.R_far (p := ⟨gb173, 0, none⟩) (Kd.R_types HO242.out BK173.out (by decide)) (fun _ hk => hk.2) (.slice Ao128 t240.length co128)) (fun _ hk => hk.2) (.slice Ao130 t243.length co130)) (fun _ hk => hk.1.1.1.1.1), by (with_reducible repeat (first | apply Kd.R_alloc | apply Kd.R_drewN | apply Kd.R_drew)); exact Kd.R_mono (Kd.R_far (p := ⟨gb173, 1, none⟩) (Kd.R_far (p := ⟨gb173, 0, none⟩) (Kd.R_types HO245.out BK173.out (by decide)) (fun _ hk => hk.2) (.slice Ao128 t240.length co128)) (fun _ hk => hk.2) (.slice Ao130 t243.length co130)) (fun _ hk => hk.1.1.1.1.1), by repeat (first | (with_reducible first | exact HB.out | apply below_alloc | apply pw_below_drewN | apply below_drew1 | refine below_set ?_ GE173.out | refine below_set ?_ GE214.out | refine below_set ?_ GE231.out) | exact HB.out)⟩
        ·rw [if_neg c55] at H
         exact absurd H (by simp)
       ·rw [if_neg c53] at H
        exact absurd H (by simp)
      ·rw [if_neg c52] at H
       exact absurd H (by simp)
end Go.Proofs.YtpmefpdafkbphaaDoor.PQ

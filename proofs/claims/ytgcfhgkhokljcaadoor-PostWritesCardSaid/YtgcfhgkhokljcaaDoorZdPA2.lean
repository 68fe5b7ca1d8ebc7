import Derived.Test.YtgcfhgkhokljcaaDoorZdPA0
import Derived.Test.YtgcfhgkhokljcaaDoorZdPA1
-- PRINTED by print.py (a twelfth state) out of the translation. Not trusted: Lean checks it.
namespace Go.Proofs.YtgcfhgkhokljcaaDoor.PA
open Go.RowKit Go.Proofs.YtgcfhgkhokljcaaDoorW.PrintWords Go.Proofs.YtgcfhgkhokljcaaDoorW.PrintLast Go.Proofs.YtgcfhgkhokljcaaDoorW.PrintMore
attribute [local go_sem] max2_int min2_int max_two min_two max_three min_three max_four min_four   -- for this text's walks alone
set_option linter.unusedVariables false
set_option linter.unusedSimpArgs false
/-! ### post_join_of68: function 102 -/
mutual
def post_join_of68.l0 : Nat → List Int → List Int → List Int → Option (List Int)
 | 0, _, _, _ => none
 | k + 1, x0, x1, x7 => if (x0.length : Int) > 0 then (post_join_of68.j1 k x0 x1 x7 true) else (post_join_of68.j1 k x0 x1 x7 (decide ((x1.length : Int) > 0)))
def post_join_of68.j1 : Nat → List Int → List Int → List Int → Bool → Option (List Int)
 | 0, _, _, _, _ => none
 | k + 1, x0, x1, x7, x22 => if x22 = true then (if (x0.length : Int) > 0 then (if (x1.length : Int) = 0 then (post_join_of68.j2 k x0 x1 x7 true) else (if 0 < (x0.length : Int) then (if 0 < (x1.length : Int) then (post_join_of68.j2 k x0 x1 x7 (decide ((rd x0 0) ≤ (rd x1 0)))) else (none)) else (none))) else (post_join_of68.j2 k x0 x1 x7 false)) else (some x7)
def post_join_of68.j2 : Nat → List Int → List Int → List Int → Bool → Option (List Int)
 | 0, _, _, _, _ => none
 | k + 1, x0, x1, x7, x8 => if (x1.length : Int) > 0 then (if (x0.length : Int) = 0 then (post_join_of68.j3 k x0 x1 x7 x8 true) else (if 0 < (x1.length : Int) then (if 0 < (x0.length : Int) then (post_join_of68.j3 k x0 x1 x7 x8 (decide ((rd x1 0) ≤ (rd x0 0)))) else (none)) else (none))) else (post_join_of68.j3 k x0 x1 x7 x8 false)
def post_join_of68.j3 : Nat → List Int → List Int → List Int → Bool → Bool → Option (List Int)
 | 0, _, _, _, _, _ => none
 | k + 1, x0, x1, x7, x8, x9 => if x8 = true then (if 0 < (x0.length : Int) then (if 1 ≤ (x0.length : Int) then (post_join_of68.j4 k (x0.drop 1) x1 x7 x8 x9 (rd x0 0)) else (none)) else (none)) else (post_join_of68.j4 k x0 x1 x7 x8 x9 0)
def post_join_of68.j4 : Nat → List Int → List Int → List Int → Bool → Bool → Int → Option (List Int)
 | 0, _, _, _, _, _, _ => none
 | k + 1, x0, x1, x7, x8, x9, x10 => if x9 = true then (if 0 < (x1.length : Int) then (if 1 ≤ (x1.length : Int) then ((some (x1.drop 1 : List Int)).bind fun y215 => ((post_Both_1.f x8 x9).bind fun t220 => (if t220 = true then (if x7.length < 17592186044416 then (post_join_of68.l0 k x0 y215 (x7 ++ [rd x1 0])) else (none)) else (post_join_of68.l0 k x0 y215 x7)))) else (none)) else (none)) else ((post_Both_1.f x8 x9).bind fun t224 => (if t224 = true then (if x7.length < 17592186044416 then (post_join_of68.l0 k x0 x1 (x7 ++ [x10])) else (none)) else (post_join_of68.l0 k x0 x1 x7)))
end
def post_join_of68.f (k : Nat) (l0 : List Int) (l1 : List Int) : Option (List Int) := (post_good.f k l0).bind fun t198 => ((post_good.f k l1).bind fun t201 => (post_join_of68.l0 k t198 t201 ([] : List Int)))
theorem post_join_of68.mono_l : ∀ k, (∀ y0 y1 y2, LeO (post_join_of68.l0 k y0 y1 y2) (post_join_of68.l0 (k + 1) y0 y1 y2)) ∧ (∀ y0 y1 y2 y3, LeO (post_join_of68.j1 k y0 y1 y2 y3) (post_join_of68.j1 (k + 1) y0 y1 y2 y3)) ∧ (∀ y0 y1 y2 y3, LeO (post_join_of68.j2 k y0 y1 y2 y3) (post_join_of68.j2 (k + 1) y0 y1 y2 y3)) ∧ (∀ y0 y1 y2 y3 y4, LeO (post_join_of68.j3 k y0 y1 y2 y3 y4) (post_join_of68.j3 (k + 1) y0 y1 y2 y3 y4)) ∧ (∀ y0 y1 y2 y3 y4 y5, LeO (post_join_of68.j4 k y0 y1 y2 y3 y4 y5) (post_join_of68.j4 (k + 1) y0 y1 y2 y3 y4 y5))
 | 0 => ⟨fun _ _ _ r h => by simp [post_join_of68.l0] at h, fun _ _ _ _ r h => by simp [post_join_of68.j1] at h, fun _ _ _ _ r h => by simp [post_join_of68.j2] at h, fun _ _ _ _ _ r h => by simp [post_join_of68.j3] at h, fun _ _ _ _ _ _ r h => by simp [post_join_of68.j4] at h⟩
 | k + 1 => by
  obtain ⟨ih0, ih1, ih2, ih3, ih4⟩ := post_join_of68.mono_l k
  refine ⟨?_, ?_, ?_, ?_, ?_⟩
  ·intro y0 y1 y2
   unfold post_join_of68.l0
   repeat' first
   | (with_reducible exact ih0 _ _ _)
   | (with_reducible exact ih1 _ _ _ _)
   | (with_reducible exact ih2 _ _ _ _)
   | (with_reducible exact ih3 _ _ _ _ _)
   | (with_reducible exact ih4 _ _ _ _ _ _)
   | (with_reducible exact post_good.mono _ _)
   | (with_reducible exact LeO.refl _)
   | (with_reducible exact LeO.none _)
   | (with_reducible refine LeO.ite ?_ ?_)
   | (with_reducible refine LeO.bind ?_ (fun _ => ?_))
  ·intro y0 y1 y2 y3
   unfold post_join_of68.j1
   repeat' first
   | (with_reducible exact ih0 _ _ _)
   | (with_reducible exact ih1 _ _ _ _)
   | (with_reducible exact ih2 _ _ _ _)
   | (with_reducible exact ih3 _ _ _ _ _)
   | (with_reducible exact ih4 _ _ _ _ _ _)
   | (with_reducible exact post_good.mono _ _)
   | (with_reducible exact LeO.refl _)
   | (with_reducible exact LeO.none _)
   | (with_reducible refine LeO.ite ?_ ?_)
   | (with_reducible refine LeO.bind ?_ (fun _ => ?_))
  ·intro y0 y1 y2 y3
   unfold post_join_of68.j2
   repeat' first
   | (with_reducible exact ih0 _ _ _)
   | (with_reducible exact ih1 _ _ _ _)
   | (with_reducible exact ih2 _ _ _ _)
   | (with_reducible exact ih3 _ _ _ _ _)
   | (with_reducible exact ih4 _ _ _ _ _ _)
   | (with_reducible exact post_good.mono _ _)
   | (with_reducible exact LeO.refl _)
   | (with_reducible exact LeO.none _)
   | (with_reducible refine LeO.ite ?_ ?_)
   | (with_reducible refine LeO.bind ?_ (fun _ => ?_))
  ·intro y0 y1 y2 y3 y4
   unfold post_join_of68.j3
   repeat' first
   | (with_reducible exact ih0 _ _ _)
   | (with_reducible exact ih1 _ _ _ _)
   | (with_reducible exact ih2 _ _ _ _)
   | (with_reducible exact ih3 _ _ _ _ _)
   | (with_reducible exact ih4 _ _ _ _ _ _)
   | (with_reducible exact post_good.mono _ _)
   | (with_reducible exact LeO.refl _)
   | (with_reducible exact LeO.none _)
   | (with_reducible refine LeO.ite ?_ ?_)
   | (with_reducible refine LeO.bind ?_ (fun _ => ?_))
  ·intro y0 y1 y2 y3 y4 y5
   unfold post_join_of68.j4
   repeat' first
   | (with_reducible exact ih0 _ _ _)
   | (with_reducible exact ih1 _ _ _ _)
   | (with_reducible exact ih2 _ _ _ _)
   | (with_reducible exact ih3 _ _ _ _ _)
   | (with_reducible exact ih4 _ _ _ _ _ _)
   | (with_reducible exact post_good.mono _ _)
   | (with_reducible exact LeO.refl _)
   | (with_reducible exact LeO.none _)
   | (with_reducible refine LeO.ite ?_ ?_)
   | (with_reducible refine LeO.bind ?_ (fun _ => ?_))
theorem post_join_of68.mono : ∀ a0 a1 k, LeO (post_join_of68.f k a0 a1) (post_join_of68.f (k + 1) a0 a1) := by
 intro a0 a1 k
 obtain ⟨ih0, ih1, ih2, ih3, ih4⟩ := post_join_of68.mono_l k
 unfold post_join_of68.f
 repeat' first
   | (with_reducible exact ih0 _ _ _)
   | (with_reducible exact ih1 _ _ _ _)
   | (with_reducible exact ih2 _ _ _ _)
   | (with_reducible exact ih3 _ _ _ _ _)
   | (with_reducible exact ih4 _ _ _ _ _ _)
   | (with_reducible exact post_good.mono _ _)
   | (with_reducible exact LeO.refl _)
   | (with_reducible exact LeO.none _)
   | (with_reducible refine LeO.ite ?_ ?_)
   | (with_reducible refine LeO.bind ?_ (fun _ => ?_))
set_option maxHeartbeats 8000000 in
set_option maxRecDepth 100000 in
theorem post_join_of68.calls (k : Nat) (A0 : Option Addr) (c0 : Nat) (l0 : List Int) (A1 : Option Addr) (c1 : Nat) (l1 : List Int) (r : List Int) (w : World) (hr0 : Kd.C (Kd.int .i64) w A0 l0.length l0) (hc0 : l0.length ≤ c0) (hr1 : Kd.C (Kd.int .i64) w A1 l1.length l1) (hc1 : l1.length ≤ c1) (h : post_join_of68.f k l0 l1 = some r) :
  Calls Tryd.prog 67 #[.slice A0 l0.length c0, .slice A1 l1.length c1, .func (.func 68) #[] #[]] w fun e w' => ∃ v0_ : Value, e = .returned (v0_) ∧ Kd.R (Kd.int .i64) 3 w' w.heap.size (fun _ => True) v0_ r ∧ Below w.heap.size w w' := by
 have HR0 := Aside0.mk hr0
 have HC0 := Aside0.mk hc0
 clear hr0 hc0
 have HR1 := Aside0.mk hr1
 have HC1 := Aside0.mk hc1
 clear hr1 hc1
 have HB := Aside0.mk (Below.refl w.heap.size w)
 have H : ((post_good.f k l0).bind fun t198 => ((post_good.f k l1).bind fun t201 => (post_join_of68.l0 k t198 t201 ([] : List Int)))) = some r := h
 clear h
 replace H := Option.bind_eq_some_iff.mp H
 obtain ⟨t198, A30, H⟩ := H
 replace H : ((post_good.f k l1).bind fun t201 => (post_join_of68.l0 k t198 t201 ([] : List Int))) = some r := H
 have A3 := Aside0.mk A30
 clear A30
 replace H := Option.bind_eq_some_iff.mp H
 obtain ⟨t201, A40, H⟩ := H
 replace H : (post_join_of68.l0 k t198 t201 ([] : List Int)) = some r := H
 have A4 := Aside0.mk A40
 clear A40
 have H' := Aside0.mk H
 clear H
 go_enter Tryd.func67, Tryd.ntmps67
 go_wp2_with (first | (go_at_call 81; (with_reducible refine (post_good.calls k (fun k_ => k_ < w.heap.size) _ _ l0 t198 _ ?side1 A3.out).mono ?_); (case side1 => exact Kd.V_mk HC0.out (Kd.F_below (Kd.C_F (Kd.heap_int .i64) HR0.out) (by repeat (first | (with_reducible first | exact HB.out | apply below_alloc | apply pw_below_drewN | apply below_drew1) | exact HB.out)))); rintro e w5 ⟨v199, rfl, ho0, hb⟩; have n0_ := Aside0.mk (Kd.V_lower (Kd.V_mono (ok' := fun k_ => True) ho0 (fun k_ hk_ => trivial)) (below_size (by repeat (first | (with_reducible first | exact HB.out | apply below_alloc | apply pw_below_drewN | apply below_drew1) | exact HB.out)))); have n1_ := Aside0.mk (below_step (by repeat (first | (with_reducible first | exact HB.out | apply below_alloc | apply pw_below_drewN | apply below_drew1) | exact HB.out)) hb); clear HB; have HO200 := n0_; have HB := n1_; clear n0_ n1_; (try clear hb); (try clear hb2); (try clear hk); (try clear hi); (try clear ho0)) | (go_at_call 81; (with_reducible refine (post_good.calls k (fun k_ => k_ < w.heap.size) _ _ l1 t201 _ ?side1 A4.out).mono ?_); (case side1 => exact Kd.V_mk HC1.out (Kd.F_below (Kd.C_F (Kd.heap_int .i64) HR1.out) (by repeat (first | (with_reducible first | exact HB.out | apply below_alloc | apply pw_below_drewN | apply below_drew1) | exact HB.out)))); rintro e w6 ⟨v202, rfl, ho0, hb⟩; have n0_ := Aside0.mk (Kd.V_below (by (with_reducible repeat (first | apply Kd.V_alloc | apply Kd.V_drewN | apply Kd.V_drew)); exact HO200.out) hb); have n1_ := Aside0.mk (Kd.V_lower (Kd.V_mono (ok' := fun k_ => True) ho0 (fun k_ hk_ => trivial)) (below_size (by repeat (first | (with_reducible first | exact HB.out | apply below_alloc | apply pw_below_drewN | apply below_drew1) | exact HB.out)))); have n2_ := Aside0.mk (below_step (by repeat (first | (with_reducible first | exact HB.out | apply below_alloc | apply pw_below_drewN | apply below_drew1) | exact HB.out)) hb); clear HO200; clear HB; have HO200 := n0_; have HO203 := n1_; have HB := n2_; clear n0_ n1_ n2_; (try clear hb); (try clear hb2); (try clear hk); (try clear hi); (try clear ho0)))
 repeat (go_quiet (first | (go_at_call 81; (with_reducible refine (post_good.calls k (fun k_ => k_ < w.heap.size) _ _ l0 t198 _ ?side1 A3.out).mono ?_); (case side1 => exact Kd.V_mk HC0.out (Kd.F_below (Kd.C_F (Kd.heap_int .i64) HR0.out) (by repeat (first | (with_reducible first | exact HB.out | apply below_alloc | apply pw_below_drewN | apply below_drew1) | exact HB.out)))); rintro e w5 ⟨v199, rfl, ho0, hb⟩; have n0_ := Aside0.mk (Kd.V_lower (Kd.V_mono (ok' := fun k_ => True) ho0 (fun k_ hk_ => trivial)) (below_size (by repeat (first | (with_reducible first | exact HB.out | apply below_alloc | apply pw_below_drewN | apply below_drew1) | exact HB.out)))); have n1_ := Aside0.mk (below_step (by repeat (first | (with_reducible first | exact HB.out | apply below_alloc | apply pw_below_drewN | apply below_drew1) | exact HB.out)) hb); clear HB; have HO200 := n0_; have HB := n1_; clear n0_ n1_; (try clear hb); (try clear hb2); (try clear hk); (try clear hi); (try clear ho0)) | (go_at_call 81; (with_reducible refine (post_good.calls k (fun k_ => k_ < w.heap.size) _ _ l1 t201 _ ?side1 A4.out).mono ?_); (case side1 => exact Kd.V_mk HC1.out (Kd.F_below (Kd.C_F (Kd.heap_int .i64) HR1.out) (by repeat (first | (with_reducible first | exact HB.out | apply below_alloc | apply pw_below_drewN | apply below_drew1) | exact HB.out)))); rintro e w6 ⟨v202, rfl, ho0, hb⟩; have n0_ := Aside0.mk (Kd.V_below (by (with_reducible repeat (first | apply Kd.V_alloc | apply Kd.V_drewN | apply Kd.V_drew)); exact HO200.out) hb); have n1_ := Aside0.mk (Kd.V_lower (Kd.V_mono (ok' := fun k_ => True) ho0 (fun k_ hk_ => trivial)) (below_size (by repeat (first | (with_reducible first | exact HB.out | apply below_alloc | apply pw_below_drewN | apply below_drew1) | exact HB.out)))); have n2_ := Aside0.mk (below_step (by repeat (first | (with_reducible first | exact HB.out | apply below_alloc | apply pw_below_drewN | apply below_drew1) | exact HB.out)) hb); clear HO200; clear HB; have HO200 := n0_; have HO203 := n1_; have HB := n2_; clear n0_ n1_ n2_; (try clear hb); (try clear hb2); (try clear hk); (try clear hi); (try clear ho0))); try go_wp2_with (first | (go_at_call 81; (with_reducible refine (post_good.calls k (fun k_ => k_ < w.heap.size) _ _ l0 t198 _ ?side1 A3.out).mono ?_); (case side1 => exact Kd.V_mk HC0.out (Kd.F_below (Kd.C_F (Kd.heap_int .i64) HR0.out) (by repeat (first | (with_reducible first | exact HB.out | apply below_alloc | apply pw_below_drewN | apply below_drew1) | exact HB.out)))); rintro e w5 ⟨v199, rfl, ho0, hb⟩; have n0_ := Aside0.mk (Kd.V_lower (Kd.V_mono (ok' := fun k_ => True) ho0 (fun k_ hk_ => trivial)) (below_size (by repeat (first | (with_reducible first | exact HB.out | apply below_alloc | apply pw_below_drewN | apply below_drew1) | exact HB.out)))); have n1_ := Aside0.mk (below_step (by repeat (first | (with_reducible first | exact HB.out | apply below_alloc | apply pw_below_drewN | apply below_drew1) | exact HB.out)) hb); clear HB; have HO200 := n0_; have HB := n1_; clear n0_ n1_; (try clear hb); (try clear hb2); (try clear hk); (try clear hi); (try clear ho0)) | (go_at_call 81; (with_reducible refine (post_good.calls k (fun k_ => k_ < w.heap.size) _ _ l1 t201 _ ?side1 A4.out).mono ?_); (case side1 => exact Kd.V_mk HC1.out (Kd.F_below (Kd.C_F (Kd.heap_int .i64) HR1.out) (by repeat (first | (with_reducible first | exact HB.out | apply below_alloc | apply pw_below_drewN | apply below_drew1) | exact HB.out)))); rintro e w6 ⟨v202, rfl, ho0, hb⟩; have n0_ := Aside0.mk (Kd.V_below (by (with_reducible repeat (first | apply Kd.V_alloc | apply Kd.V_drewN | apply Kd.V_drew)); exact HO200.out) hb); have n1_ := Aside0.mk (Kd.V_lower (Kd.V_mono (ok' := fun k_ => True) ho0 (fun k_ hk_ => trivial)) (below_size (by repeat (first | (with_reducible first | exact HB.out | apply below_alloc | apply pw_below_drewN | apply below_drew1) | exact HB.out)))); have n2_ := Aside0.mk (below_step (by repeat (first | (with_reducible first | exact HB.out | apply below_alloc | apply pw_below_drewN | apply below_drew1) | exact HB.out)) hb); clear HO200; clear HB; have HO200 := n0_; have HO203 := n1_; have HB := n2_; clear n0_ n1_ n2_; (try clear hb); (try clear hb2); (try clear hk); (try clear hi); (try clear ho0))))
 go_loopg [0, 1, 7] k (fun kq v0 v1 v7 w' => ∃ (x0_1 : List Int) (x1_1 : List Int) (x7_1 : List Int), Aside0 (post_join_of68.l0 kq x0_1 x1_1 x7_1 = some r) ∧ Aside0 (kq ≤ k) ∧ Aside0 (Kd.V (Kd.int .i64) 3 w' w.heap.size (fun k_ => some k_ ≠ (v7 : Value).ownBlock) v0 x0_1) ∧ Aside0 (Kd.V (Kd.int .i64) 3 w' w.heap.size (fun k_ => some k_ ≠ (v7 : Value).ownBlock) v1 x1_1) ∧ Aside0 (Kd.R (Kd.int .i64) 3 w' w.heap.size (fun _ => True) v7 x7_1) ∧ Aside0 (Below w.heap.size w w'))
 case atStart => exact ⟨(t198), (t201), (([] : List Int)), H', ⟨Nat.le_refl _⟩, ⟨by (with_reducible repeat (first | apply Kd.V_alloc | apply Kd.V_drewN | apply Kd.V_drew)); exact Kd.V_mono HO200.out (fun _ hk => (by simp [Value.ownBlock]))⟩, ⟨by (with_reducible repeat (first | apply Kd.V_alloc | apply Kd.V_drewN | apply Kd.V_drew)); exact Kd.V_mono HO203.out (fun _ hk => (by simp [Value.ownBlock]))⟩, ⟨by first | exact Kd.R_nil _ _ _ _ _ | exact Kd.N_nil _ _ _ _ _ | exact Kd.V_nil _ _ _ _ _ | exact Kd.Q_nil _ _ _ _ _ | exact Kd.S_nil _ _ _ _ _⟩, ⟨by repeat (first | (with_reducible first | exact HB.out | apply below_alloc | apply pw_below_drewN | apply below_drew1) | exact HB.out)⟩⟩
 case round =>
  clear H'
  try clear c1
  try clear p2
  obtain ⟨x0_1, x1_1, x7_1, HA, HK1, HO_0, HO_1, HO_7, HB⟩ := hrel
  cases gk with
  | zero => exact absurd HA.out (by simp [post_join_of68.l0])
  | succ k1 =>
   have H := HA.out
   clear HA
   simp only [post_join_of68.l0] at H
   have HC7 := Aside0.mk H
   clear H
   go_upto_region 3 with (fail)
   repeat (go_quiet (fail); go_upto_region 3 with (fail))
   go_cut [22] (fun v22 wc => ∃ (kq : Nat) (x22_6 : Bool), v22 = .bool x22_6 ∧ Aside0 (post_join_of68.j1 kq x0_1 x1_1 x7_1 x22_6 = some r) ∧ Aside0 (kq ≤ k1) ∧ Aside0 (Kd.V (Kd.int .i64) 3 wc w.heap.size (fun k_ => some k_ ≠ (u7 : Value).ownBlock) u0 x0_1) ∧ Aside0 (Kd.V (Kd.int .i64) 3 wc w.heap.size (fun k_ => some k_ ≠ (u7 : Value).ownBlock) u1 x1_1) ∧ Aside0 (Kd.R (Kd.int .i64) 3 wc w.heap.size (fun _ => True) u7 x7_1) ∧ Aside0 (Below w.heap.size w wc))
   case first =>
    have H := HC7.out
    clear HC7
    by_cases c8 : (x0_1.length : Int) > 0
    ·rw [if_pos c8] at H
     have c8b0 : decide (0 < (x0_1.length : Int)) = true := decide_eq_true c8
     have c8b1 : decide (0 < x0_1.length) = true := decide_eq_true (by omega)
     clear c8
     (first | rw [c8b0] | (simp only [i64_w, i32_w]; rw [c8b0]) | skip)
     have H' := Aside0.mk H
     clear H
     obtain ⟨Ao9, co9, eo9⟩ := Kd.V_slice HO_0.out
     subst eo9
     go_wp2
     repeat (go_quiet (fail); try go_wp2)
     go_meet
     case rel => exact ⟨_, (true), (by first | rfl | (simp; done) | (simp [*]; done)), H', ⟨by have := HK1.out; first | omega | exact Nat.le_refl _⟩, ⟨by (with_reducible repeat (first | apply Kd.V_alloc | apply Kd.V_drewN | apply Kd.V_drew)); exact HO_0.out⟩, ⟨by (with_reducible repeat (first | apply Kd.V_alloc | apply Kd.V_drewN | apply Kd.V_drew)); exact HO_1.out⟩, ⟨by (with_reducible repeat (first | apply Kd.R_alloc | apply Kd.R_drewN | apply Kd.R_drew)); exact HO_7.out⟩, ⟨by repeat (first | (with_reducible first | exact HB.out | apply below_alloc | apply pw_below_drewN | apply below_drew1) | exact HB.out)⟩⟩
    ·rw [if_neg c8] at H
     have c8b0 : decide (0 < (x0_1.length : Int)) = false := decide_eq_false c8
     have c8b1 : decide (0 < x0_1.length) = false := decide_eq_false (by omega)
     clear c8
     (first | rw [c8b0] | (simp only [i64_w, i32_w]; rw [c8b0]) | skip)
     have H' := Aside0.mk H
     clear H
     obtain ⟨Ao10, co10, eo10⟩ := Kd.V_slice HO_0.out
     subst eo10
     obtain ⟨Ao11, co11, eo11⟩ := Kd.V_slice HO_1.out
     subst eo11
     go_wp2
     repeat (go_quiet (fail); try go_wp2)
     go_meet
     case rel => exact ⟨_, (decide ((x1_1.length : Int) > 0)), (by first | rfl | (simp; done) | (simp [*]; done)), H', ⟨by have := HK1.out; first | omega | exact Nat.le_refl _⟩, ⟨by (with_reducible repeat (first | apply Kd.V_alloc | apply Kd.V_drewN | apply Kd.V_drew)); exact HO_0.out⟩, ⟨by (with_reducible repeat (first | apply Kd.V_alloc | apply Kd.V_drewN | apply Kd.V_drew)); exact HO_1.out⟩, ⟨by (with_reducible repeat (first | apply Kd.R_alloc | apply Kd.R_drewN | apply Kd.R_drew)); exact HO_7.out⟩, ⟨by repeat (first | (with_reducible first | exact HB.out | apply below_alloc | apply pw_below_drewN | apply below_drew1) | exact HB.out)⟩⟩
   case rest =>
    clear HC7
    try clear c1
    try clear p2
    try clear c8
    try clear c8b0
    try clear c8b1
    try clear c10
    try clear p2
    obtain ⟨kq, x22_6, rfl, HA, HJ6, HO_0, HO_1, HO_7, HB⟩ := hcut
    cases kq with
    | zero => exact absurd HA.out (by simp [post_join_of68.j1])
    | succ kj6 =>
     have H := HA.out
     clear HA
     simp only [post_join_of68.j1] at H
     by_cases c12 : x22_6 = true
     ·subst c12
      have H1 : (if (x0_1.length : Int) > 0 then (if (x1_1.length : Int) = 0 then (post_join_of68.j2 kj6 x0_1 x1_1 x7_1 true) else (if 0 < (x0_1.length : Int) then (if 0 < (x1_1.length : Int) then (post_join_of68.j2 kj6 x0_1 x1_1 x7_1 (decide ((rd x0_1 0) ≤ (rd x1_1 0)))) else (none)) else (none))) else (post_join_of68.j2 kj6 x0_1 x1_1 x7_1 false)) = some r := by rw [if_pos rfl] at H; exact H
      clear H
      have H := H1
      clear H1
      have HC13 := Aside0.mk H
      clear H
      go_upto_region 4 with (fail)
      repeat (go_quiet (fail); go_upto_region 4 with (fail))
      go_cut [8] (fun v8 wc => ∃ (kq : Nat) (x8_12 : Bool), v8 = .bool x8_12 ∧ Aside0 (post_join_of68.j2 kq x0_1 x1_1 x7_1 x8_12 = some r) ∧ Aside0 (kq ≤ kj6) ∧ Aside0 (Kd.V (Kd.int .i64) 3 wc w.heap.size (fun k_ => some k_ ≠ (u7 : Value).ownBlock) u0 x0_1) ∧ Aside0 (Kd.V (Kd.int .i64) 3 wc w.heap.size (fun k_ => some k_ ≠ (u7 : Value).ownBlock) u1 x1_1) ∧ Aside0 (Kd.R (Kd.int .i64) 3 wc w.heap.size (fun _ => True) u7 x7_1) ∧ Aside0 (Below w.heap.size w wc))
      case first =>
       have H := HC13.out
       clear HC13
       by_cases c14 : (x0_1.length : Int) > 0
       ·rw [if_pos c14] at H
        have c14b0 : decide (0 < (x0_1.length : Int)) = true := decide_eq_true c14
        have c14b1 : decide (0 < x0_1.length) = true := decide_eq_true (by omega)
        clear c14
        (first | rw [c14b0] | (simp only [i64_w, i32_w]; rw [c14b0]) | skip)
        by_cases c15 : (x1_1.length : Int) = 0
        ·rw [if_pos c15] at H
         have c15b0 : ((x1_1.length : Int) == 0) = true := beq_iff_eq.mpr c15
         have c15b1 : ((x1_1.length : Int) != 0) = false := bne_eq_false_iff_eq.mpr c15
         clear c15
         have H' := Aside0.mk H
         clear H
         obtain ⟨Ao16, co16, eo16⟩ := Kd.V_slice HO_0.out
         subst eo16
         obtain ⟨Ao17, co17, eo17⟩ := Kd.V_slice HO_1.out
         subst eo17
         go_wp2
         repeat (go_quiet (fail); try go_wp2)
         go_meet
         case rel => exact ⟨_, (true), (by first | rfl | (simp; done) | (simp [*]; done)), H', ⟨by have := HK1.out; have := HJ6.out; first | omega | exact Nat.le_refl _⟩, ⟨by (with_reducible repeat (first | apply Kd.V_alloc | apply Kd.V_drewN | apply Kd.V_drew)); exact HO_0.out⟩, ⟨by (with_reducible repeat (first | apply Kd.V_alloc | apply Kd.V_drewN | apply Kd.V_drew)); exact HO_1.out⟩, ⟨by (with_reducible repeat (first | apply Kd.R_alloc | apply Kd.R_drewN | apply Kd.R_drew)); exact HO_7.out⟩, ⟨by repeat (first | (with_reducible first | exact HB.out | apply below_alloc | apply pw_below_drewN | apply below_drew1) | exact HB.out)⟩⟩
        ·rw [if_neg c15] at H
         have c15b0 : ((x1_1.length : Int) == 0) = false := beq_eq_false_iff_ne.mpr c15
         have c15b1 : ((x1_1.length : Int) != 0) = true := bne_iff_ne.mpr c15
         have c15b2 : ¬ (x1_1 = []) := fun h_ => c15 (by rw [h_]; rfl)
         by_cases c18 : 0 < (x0_1.length : Int)
         ·rw [if_pos c18] at H
          have c18b0 : decide (0 < (x0_1.length : Int)) = true := decide_eq_true c18
          have c18b1 : decide (0 < x0_1.length) = true := decide_eq_true (by omega)
          clear c18
          by_cases c19 : 0 < (x1_1.length : Int)
          ·rw [if_pos c19] at H
           have c19b0 : decide (0 < (x1_1.length : Int)) = true := decide_eq_true c19
           have c19b1 : decide (0 < x1_1.length) = true := decide_eq_true (by omega)
           clear c19
           have H' := Aside0.mk H
           clear H
           obtain ⟨Ao20, co20, eo20⟩ := Kd.V_slice HO_0.out
           subst eo20
           obtain ⟨Ao21, co21, eo21⟩ := Kd.V_slice HO_1.out
           subst eo21
           have p204 : 0 ≤ (0 : Int) := (by omega)
           have q204 : 0 < (x0_1.length : Int) := of_decide_eq_true (by first | (with_reducible assumption) | assumption)
           obtain ⟨ad204, e204, hx204_0⟩ := Kd.at_int (Kd.V_reads' HO_0.out).2.2 0 p204 q204
           cases e204
           have qi204 : (0 < x0_1.length) = True := eq_true (by omega)
           (try rw [show ((0 : Int)).toNat = 0 from rfl] at hx204_0)
           (try rw [Addr.add_zero'] at hx204_0)
           replace p204 := eq_true p204
           replace q204 := eq_true q204
           have p205 : 0 ≤ (0 : Int) := (by omega)
           have q205 : 0 < (x1_1.length : Int) := of_decide_eq_true (by first | (with_reducible assumption) | assumption)
           obtain ⟨ad205, e205, hx205_0⟩ := Kd.at_int (Kd.V_reads' HO_1.out).2.2 0 p205 q205
           cases e205
           have qi205 : (0 < x1_1.length) = True := eq_true (by omega)
           (try rw [show ((0 : Int)).toNat = 0 from rfl] at hx205_0)
           (try rw [Addr.add_zero'] at hx205_0)
           replace p205 := eq_true p205
           replace q205 := eq_true q205
           go_wp2
           repeat (go_quiet (fail); try go_wp2)
           go_meet
           case rel => exact ⟨_, (decide ((rd x0_1 0) ≤ (rd x1_1 0))), (by first | rfl | (simp; done) | (simp [*]; done)), H', ⟨by have := HK1.out; have := HJ6.out; first | omega | exact Nat.le_refl _⟩, ⟨by (with_reducible repeat (first | apply Kd.V_alloc | apply Kd.V_drewN | apply Kd.V_drew)); exact HO_0.out⟩, ⟨by (with_reducible repeat (first | apply Kd.V_alloc | apply Kd.V_drewN | apply Kd.V_drew)); exact HO_1.out⟩, ⟨by (with_reducible repeat (first | apply Kd.R_alloc | apply Kd.R_drewN | apply Kd.R_drew)); exact HO_7.out⟩, ⟨by repeat (first | (with_reducible first | exact HB.out | apply below_alloc | apply pw_below_drewN | apply below_drew1) | exact HB.out)⟩⟩
          ·rw [if_neg c19] at H
           exact absurd H (by simp)
         ·rw [if_neg c18] at H
          exact absurd H (by simp)
       ·rw [if_neg c14] at H
        have c14b0 : decide (0 < (x0_1.length : Int)) = false := decide_eq_false c14
        have c14b1 : decide (0 < x0_1.length) = false := decide_eq_false (by omega)
        clear c14
        (first | rw [c14b0] | (simp only [i64_w, i32_w]; rw [c14b0]) | skip)
        have H' := Aside0.mk H
        clear H
        obtain ⟨Ao22, co22, eo22⟩ := Kd.V_slice HO_0.out
        subst eo22
        go_wp2
        repeat (go_quiet (fail); try go_wp2)
        go_meet
        case rel => exact ⟨_, (false), (by first | rfl | (simp; done) | (simp [*]; done)), H', ⟨by have := HK1.out; have := HJ6.out; first | omega | exact Nat.le_refl _⟩, ⟨by (with_reducible repeat (first | apply Kd.V_alloc | apply Kd.V_drewN | apply Kd.V_drew)); exact HO_0.out⟩, ⟨by (with_reducible repeat (first | apply Kd.V_alloc | apply Kd.V_drewN | apply Kd.V_drew)); exact HO_1.out⟩, ⟨by (with_reducible repeat (first | apply Kd.R_alloc | apply Kd.R_drewN | apply Kd.R_drew)); exact HO_7.out⟩, ⟨by repeat (first | (with_reducible first | exact HB.out | apply below_alloc | apply pw_below_drewN | apply below_drew1) | exact HB.out)⟩⟩
      case rest =>
       clear HC13
       try clear c1
       try clear p2
       try clear q2
       try clear hx2
       try clear qi2
       try clear c8
       try clear c8b0
       try clear c8b1
       try clear c10
       try clear c12
       try clear c14
       try clear c14b0
       try clear c14b1
       try clear c15
       try clear c15b0
       try clear c15b1
       try clear c15b2
       try clear c18
       try clear c18b0
       try clear c18b1
       try clear c19
       try clear c19b0
       try clear c19b1
       try clear p20
       try clear q20
       try clear hx20
       try clear qi20
       try clear hx204_0
       try clear hx205_0
       try clear p2
       try clear p204
       try clear p205
       try clear q204
       try clear q205
       obtain ⟨kq, x8_12, rfl, HA, HJ12, HO_0, HO_1, HO_7, HB⟩ := hcut
       cases kq with
       | zero => exact absurd HA.out (by simp [post_join_of68.j2])
       | succ kj12 =>
        have H := HA.out
        clear HA
        simp only [post_join_of68.j2] at H
        have HC23 := Aside0.mk H
        clear H
        go_upto_region 5 with (fail)
        repeat (go_quiet (fail); go_upto_region 5 with (fail))
        go_cut [9] (fun v9 wc => ∃ (kq : Nat) (x9_22 : Bool), v9 = .bool x9_22 ∧ Aside0 (post_join_of68.j3 kq x0_1 x1_1 x7_1 x8_12 x9_22 = some r) ∧ Aside0 (kq ≤ kj12) ∧ Aside0 (Kd.V (Kd.int .i64) 3 wc w.heap.size (fun k_ => some k_ ≠ (u7 : Value).ownBlock) u0 x0_1) ∧ Aside0 (Kd.V (Kd.int .i64) 3 wc w.heap.size (fun k_ => some k_ ≠ (u7 : Value).ownBlock) u1 x1_1) ∧ Aside0 (Kd.R (Kd.int .i64) 3 wc w.heap.size (fun _ => True) u7 x7_1) ∧ Aside0 (Below w.heap.size w wc))
        case first =>
         have H := HC23.out
         clear HC23
         by_cases c24 : (x1_1.length : Int) > 0
         ·rw [if_pos c24] at H
          have c24b0 : decide (0 < (x1_1.length : Int)) = true := decide_eq_true c24
          have c24b1 : decide (0 < x1_1.length) = true := decide_eq_true (by omega)
          clear c24
          (first | rw [c24b0] | (simp only [i64_w, i32_w]; rw [c24b0]) | skip)
          by_cases c25 : (x0_1.length : Int) = 0
          ·rw [if_pos c25] at H
           have c25b0 : ((x0_1.length : Int) == 0) = true := beq_iff_eq.mpr c25
           have c25b1 : ((x0_1.length : Int) != 0) = false := bne_eq_false_iff_eq.mpr c25
           clear c25
           have H' := Aside0.mk H
           clear H
           obtain ⟨Ao26, co26, eo26⟩ := Kd.V_slice HO_1.out
           subst eo26
           obtain ⟨Ao27, co27, eo27⟩ := Kd.V_slice HO_0.out
           subst eo27
           go_wp2
           repeat (go_quiet (fail); try go_wp2)
           go_meet
           case rel => exact ⟨_, (true), (by first | rfl | (simp; done) | (simp [*]; done)), H', ⟨by have := HK1.out; have := HJ6.out; have := HJ12.out; first | omega | exact Nat.le_refl _⟩, ⟨by (with_reducible repeat (first | apply Kd.V_alloc | apply Kd.V_drewN | apply Kd.V_drew)); exact HO_0.out⟩, ⟨by (with_reducible repeat (first | apply Kd.V_alloc | apply Kd.V_drewN | apply Kd.V_drew)); exact HO_1.out⟩, ⟨by (with_reducible repeat (first | apply Kd.R_alloc | apply Kd.R_drewN | apply Kd.R_drew)); exact HO_7.out⟩, ⟨by repeat (first | (with_reducible first | exact HB.out | apply below_alloc | apply pw_below_drewN | apply below_drew1) | exact HB.out)⟩⟩
          ·rw [if_neg c25] at H
           have c25b0 : ((x0_1.length : Int) == 0) = false := beq_eq_false_iff_ne.mpr c25
           have c25b1 : ((x0_1.length : Int) != 0) = true := bne_iff_ne.mpr c25
           have c25b2 : ¬ (x0_1 = []) := fun h_ => c25 (by rw [h_]; rfl)
           by_cases c28 : 0 < (x1_1.length : Int)
           ·rw [if_pos c28] at H
            have c28b0 : decide (0 < (x1_1.length : Int)) = true := decide_eq_true c28
            have c28b1 : decide (0 < x1_1.length) = true := decide_eq_true (by omega)
            clear c28
            by_cases c29 : 0 < (x0_1.length : Int)
            ·rw [if_pos c29] at H
             have c29b0 : decide (0 < (x0_1.length : Int)) = true := decide_eq_true c29
             have c29b1 : decide (0 < x0_1.length) = true := decide_eq_true (by omega)
             clear c29
             have H' := Aside0.mk H
             clear H
             obtain ⟨Ao30, co30, eo30⟩ := Kd.V_slice HO_1.out
             subst eo30
             obtain ⟨Ao31, co31, eo31⟩ := Kd.V_slice HO_0.out
             subst eo31
             have p206 : 0 ≤ (0 : Int) := (by omega)
             have q206 : 0 < (x1_1.length : Int) := of_decide_eq_true (by first | (with_reducible assumption) | assumption)
             obtain ⟨ad206, e206, hx206_0⟩ := Kd.at_int (Kd.V_reads' HO_1.out).2.2 0 p206 q206
             cases e206
             have qi206 : (0 < x1_1.length) = True := eq_true (by omega)
             (try rw [show ((0 : Int)).toNat = 0 from rfl] at hx206_0)
             (try rw [Addr.add_zero'] at hx206_0)
             replace p206 := eq_true p206
             replace q206 := eq_true q206
             have p207 : 0 ≤ (0 : Int) := (by omega)
             have q207 : 0 < (x0_1.length : Int) := of_decide_eq_true (by first | (with_reducible assumption) | assumption)
             obtain ⟨ad207, e207, hx207_0⟩ := Kd.at_int (Kd.V_reads' HO_0.out).2.2 0 p207 q207
             cases e207
             have qi207 : (0 < x0_1.length) = True := eq_true (by omega)
             (try rw [show ((0 : Int)).toNat = 0 from rfl] at hx207_0)
             (try rw [Addr.add_zero'] at hx207_0)
             replace p207 := eq_true p207
             replace q207 := eq_true q207
             go_wp2
             repeat (go_quiet (fail); try go_wp2)
             go_meet
             case rel => exact ⟨_, (decide ((rd x1_1 0) ≤ (rd x0_1 0))), (by first | rfl | (simp; done) | (simp [*]; done)), H', ⟨by have := HK1.out; have := HJ6.out; have := HJ12.out; first | omega | exact Nat.le_refl _⟩, ⟨by (with_reducible repeat (first | apply Kd.V_alloc | apply Kd.V_drewN | apply Kd.V_drew)); exact HO_0.out⟩, ⟨by (with_reducible repeat (first | apply Kd.V_alloc | apply Kd.V_drewN | apply Kd.V_drew)); exact HO_1.out⟩, ⟨by (with_reducible repeat (first | apply Kd.R_alloc | apply Kd.R_drewN | apply Kd.R_drew)); exact HO_7.out⟩, ⟨by repeat (first | (with_reducible first | exact HB.out | apply below_alloc | apply pw_below_drewN | apply below_drew1) | exact HB.out)⟩⟩
            ·rw [if_neg c29] at H
             exact absurd H (by simp)
           ·rw [if_neg c28] at H
            exact absurd H (by simp)
         ·rw [if_neg c24] at H
          have c24b0 : decide (0 < (x1_1.length : Int)) = false := decide_eq_false c24
          have c24b1 : decide (0 < x1_1.length) = false := decide_eq_false (by omega)
          clear c24
          (first | rw [c24b0] | (simp only [i64_w, i32_w]; rw [c24b0]) | skip)
          have H' := Aside0.mk H
          clear H
          obtain ⟨Ao32, co32, eo32⟩ := Kd.V_slice HO_1.out
          subst eo32
          go_wp2
          repeat (go_quiet (fail); try go_wp2)
          go_meet
          case rel => exact ⟨_, (false), (by first | rfl | (simp; done) | (simp [*]; done)), H', ⟨by have := HK1.out; have := HJ6.out; have := HJ12.out; first | omega | exact Nat.le_refl _⟩, ⟨by (with_reducible repeat (first | apply Kd.V_alloc | apply Kd.V_drewN | apply Kd.V_drew)); exact HO_0.out⟩, ⟨by (with_reducible repeat (first | apply Kd.V_alloc | apply Kd.V_drewN | apply Kd.V_drew)); exact HO_1.out⟩, ⟨by (with_reducible repeat (first | apply Kd.R_alloc | apply Kd.R_drewN | apply Kd.R_drew)); exact HO_7.out⟩, ⟨by repeat (first | (with_reducible first | exact HB.out | apply below_alloc | apply pw_below_drewN | apply below_drew1) | exact HB.out)⟩⟩
        case rest =>
         clear HC23
         try clear c1
         try clear c2
         try clear p2
         try clear q2
         try clear hx2
         try clear qi2
         try clear c8
         try clear c8b0
         try clear c8b1
         try clear c10
         try clear c12
         try clear c14
         try clear c14b0
         try clear c14b1
         try clear c15
         try clear c15b0
         try clear c15b1
         try clear c15b2
         try clear c18
         try clear c18b0
         try clear c18b1
         try clear c19
         try clear c19b0
         try clear c19b1
         try clear p20
         try clear q20
         try clear hx20
         try clear qi20
         try clear c24
         try clear c24b0
         try clear c24b1
         try clear c25
         try clear c25b0
         try clear c25b1
         try clear c25b2
         try clear c28
         try clear c28b0
         try clear c28b1
         try clear c29
         try clear c29b0
         try clear c29b1
         try clear hx204_0
         try clear hx205_0
         try clear hx206_0
         try clear hx207_0
         try clear p2
         try clear p20
         try clear p204
         try clear p205
         try clear p206
         try clear p207
         try clear q2
         try clear q20
         try clear q204
         try clear q205
         try clear q206
         try clear q207
         obtain ⟨kq, x9_22, rfl, HA, HJ22, HO_0, HO_1, HO_7, HB⟩ := hcut
         cases kq with
         | zero => exact absurd HA.out (by simp [post_join_of68.j3])
         | succ kj22 =>
          have H := HA.out
          clear HA
          simp only [post_join_of68.j3] at H
          have HC33 := Aside0.mk H
          clear H
          go_upto_if 57 with (fail)
          repeat (go_quiet (fail); go_upto_if 57 with (fail))
          go_cut [0, 10] (fun v0 v10 wc => ∃ (kq : Nat) (x0_32 : List Int) (x10_32 : Int), v10 = .int .i64 x10_32 ∧ Aside0 (post_join_of68.j4 kq x0_32 x1_1 x7_1 x8_12 x9_22 x10_32 = some r) ∧ Aside0 (kq ≤ kj22) ∧ Aside0 (Kd.V (Kd.int .i64) 3 wc w.heap.size (fun k_ => some k_ ≠ (u7 : Value).ownBlock) v0 x0_32) ∧ Aside0 (Kd.V (Kd.int .i64) 3 wc w.heap.size (fun k_ => some k_ ≠ (u7 : Value).ownBlock) u1 x1_1) ∧ Aside0 (Kd.R (Kd.int .i64) 3 wc w.heap.size (fun _ => True) u7 x7_1) ∧ Aside0 (Below w.heap.size w wc))
          case first =>
           have H := HC33.out
           clear HC33
           by_cases c34 : x8_12 = true
           ·subst c34
            have H1 : (if 0 < (x0_1.length : Int) then (if 1 ≤ (x0_1.length : Int) then (post_join_of68.j4 kj22 (x0_1.drop 1) x1_1 x7_1 true x9_22 (rd x0_1 0)) else (none)) else (none)) = some r := by rw [if_pos rfl] at H; exact H
            clear H
            have H := H1
            clear H1
            by_cases c35 : 0 < (x0_1.length : Int)
            ·rw [if_pos c35] at H
             have c35b0 : decide (0 < (x0_1.length : Int)) = true := decide_eq_true c35
             have c35b1 : decide (0 < x0_1.length) = true := decide_eq_true (by omega)
             clear c35
             (first | rw [c35b0] | (simp only [i64_w, i32_w]; rw [c35b0]) | skip)
             by_cases c36 : 1 ≤ (x0_1.length : Int)
             ·rw [if_pos c36] at H
              have c36b0 := eq_true c36
              have c36b1 : decide (1 ≤ (x0_1.length : Int)) = true := decide_eq_true c36
              clear c36
              obtain ⟨y209, hy209⟩ : ∃ y_ : List Int, y_ = (x0_1.drop 1) := ⟨_, rfl⟩
              replace H : (post_join_of68.j4 kj22 y209 x1_1 x7_1 true x9_22 (rd x0_1 0)) = some r := by first | (rw [hy209]; with_reducible exact H) | (have H2_ := (Option.bind_some _ _).symm.trans H; rw [hy209]; with_reducible exact H2_) | (have H2_ := (Option.bind_some _ _).symm.trans H; with_reducible exact H2_) | with_reducible exact H | (rw [hy209]; exact H) | exact H
              have Ny209 := Aside0.mk hy209
              clear hy209
              have H' := Aside0.mk H
              clear H
              obtain ⟨Ao37, co37, eo37⟩ := Kd.V_slice HO_0.out
              subst eo37
              have p208 : 0 ≤ (0 : Int) := (by omega)
              have q208 : 0 < (x0_1.length : Int) := of_decide_eq_true (by first | (with_reducible assumption) | assumption)
              obtain ⟨ad208, e208, hx208_0⟩ := Kd.at_int (Kd.V_reads' HO_0.out).2.2 0 p208 q208
              cases e208
              have qi208 : (0 < x0_1.length) = True := eq_true (by omega)
              (try rw [show ((0 : Int)).toNat = 0 from rfl] at hx208_0)
              (try rw [Addr.add_zero'] at hx208_0)
              replace p208 := eq_true p208
              replace q208 := eq_true q208
              have q38 : (1 : Int) ≤ ((x0_1.length : Int) : Int) := of_decide_eq_true (by first | (with_reducible assumption) | assumption)
              obtain ⟨i038, hi038, _, hsz38, _⟩ := info_parts info3
              have hroom38 : x0_1.length ≤ co37 := (Kd.V_reads' HO_0.out).2.1
              have hC38 : Kd.F (Kd.int .i64) _ _ (some ad208) x0_1.length x0_1 := (Kd.V_at (base := w.heap.size) HO_0.out).2.2
              have hcut38 := cut_from (P := Tryd.prog) 54 3 .i64 Tryd.underlying54 hi038 1 hsz38 (some ad208) x0_1.length co37 1 (by omega) q38
              have hr38 := Kd.F_cut (m := (1 : Int).toNat) (c := co37) hC38 (by omega) hroom38
              obtain ⟨A38, hA38⟩ : ∃ A1, A1 = (if co37 = (1 : Int).toNat then (some ad208) else ((some ad208) : Option Addr).map (·.add ((1 : Int).toNat * 1))) := ⟨_, rfl⟩
              obtain ⟨c38, hc38⟩ : ∃ c1, c1 = co37 - (1 : Int).toNat := ⟨_, rfl⟩
              have hy38 : y209.length = x0_1.length - (1 : Int).toNat := (by rw [Ny209.out, List.length_drop] <;> omega)
              rw [show (x0_1).drop (1 : Int).toNat = y209 from Ny209.out.symm] at hr38
              replace hr38 : Kd.F (Kd.int .i64) _ _ A38 y209.length y209 := (by rw [hA38]; exact hr38)
              rw [← hy38, ← hA38, ← hc38] at hcut38
              have HO213 := Aside0.mk (show Kd.V (Kd.int .i64) 3 _ w.heap.size _ (.slice A38 y209.length c38) y209 from Kd.V_mk (by rw [hy38, hc38]; exact Nat.sub_le_sub_right hroom38 _) hr38)
              have HC213 := Aside0.mk (show y209.length ≤ c38 from by rw [hy38, hc38]; exact Nat.sub_le_sub_right hroom38 _)
              clear hr38 hC38 hroom38 hi038 hsz38 hc38
              have KY38 := Aside0.mk hy38
              have KA38 := Aside0.mk hA38
              clear hy38 hA38
              replace q38 := eq_true q38
              go_wp2
              repeat (go_quiet (fail); try go_wp2)
              go_meet
              case rel => exact ⟨_, (y209), (rd x0_1 0), (by first | rfl | (simp; done) | (simp [*]; done)), H', ⟨by have := HK1.out; have := HJ6.out; have := HJ12.out; have := HJ22.out; first | omega | exact Nat.le_refl _⟩, ⟨by (with_reducible repeat (first | apply Kd.V_alloc | apply Kd.V_drewN | apply Kd.V_drew)); exact HO213.out⟩, ⟨by (with_reducible repeat (first | apply Kd.V_alloc | apply Kd.V_drewN | apply Kd.V_drew)); exact HO_1.out⟩, ⟨by (with_reducible repeat (first | apply Kd.R_alloc | apply Kd.R_drewN | apply Kd.R_drew)); exact HO_7.out⟩, ⟨by repeat (first | (with_reducible first | exact HB.out | apply below_alloc | apply pw_below_drewN | apply below_drew1) | exact HB.out)⟩⟩
             ·rw [if_neg c36] at H
              exact absurd H (by simp)
            ·rw [if_neg c35] at H
             exact absurd H (by simp)
           ·replace c34 := Bool.eq_false_iff.mpr c34
            subst c34
            have H1 : (post_join_of68.j4 kj22 x0_1 x1_1 x7_1 false x9_22 0) = some r := by rw [if_neg (show ¬ (false = true) by decide)] at H; exact H
            clear H
            have H := H1
            clear H1
            have H' := Aside0.mk H
            clear H
            go_wp2
            repeat (go_quiet (fail); try go_wp2)
            go_meet
            case rel => exact ⟨_, (x0_1), (0), (by first | rfl | (simp; done) | (simp [*]; done)), H', ⟨by have := HK1.out; have := HJ6.out; have := HJ12.out; have := HJ22.out; first | omega | exact Nat.le_refl _⟩, ⟨by (with_reducible repeat (first | apply Kd.V_alloc | apply Kd.V_drewN | apply Kd.V_drew)); exact HO_0.out⟩, ⟨by (with_reducible repeat (first | apply Kd.V_alloc | apply Kd.V_drewN | apply Kd.V_drew)); exact HO_1.out⟩, ⟨by (with_reducible repeat (first | apply Kd.R_alloc | apply Kd.R_drewN | apply Kd.R_drew)); exact HO_7.out⟩, ⟨by repeat (first | (with_reducible first | exact HB.out | apply below_alloc | apply pw_below_drewN | apply below_drew1) | exact HB.out)⟩⟩
          case rest =>
           clear HC33
           try clear c1
           try clear c2
           try clear p2
           try clear q2
           try clear hx2
           try clear qi2
           try clear c3
           try clear q3
           try clear c8
           try clear c8b0
           try clear c8b1
           try clear c10
           try clear c12
           try clear c14
           try clear c14b0
           try clear c14b1
           try clear c15
           try clear c15b0
           try clear c15b1
           try clear c15b2
           try clear c18
           try clear c18b0
           try clear c18b1
           try clear c19
           try clear c19b0
           try clear c19b1
           try clear p20
           try clear q20
           try clear hx20
           try clear qi20
           try clear c24
           try clear c24b0
           try clear c24b1
           try clear c25
           try clear c25b0
           try clear c25b1
           try clear c25b2
           try clear c28
           try clear c28b0
           try clear c28b1
           try clear c29
           try clear c29b0
           try clear c29b1
           try clear c34
           try clear c35
           try clear c35b0
           try clear c35b1
           try clear c36
           try clear c36b0
           try clear c36b1
           try clear c38
           try clear q38
           try clear hx204_0
           try clear hx205_0
           try clear hx206_0
           try clear hx207_0
           try clear hx208_0
           try clear p2
           try clear p20
           try clear p204
           try clear p205
           try clear p206
           try clear p207
           try clear p208
           try clear q2
           try clear q20
           try clear q204
           try clear q205
           try clear q206
           try clear q207
           try clear q208
           try clear q38
           obtain ⟨kq, x0_32, x10_32, rfl, HA, HJ32, HO_0, HO_1, HO_7, HB⟩ := hcut
           cases kq with
           | zero => exact absurd HA.out (by simp [post_join_of68.j4])
           | succ kj32 =>
            have H := HA.out
            clear HA
            simp only [post_join_of68.j4] at H
            by_cases c39 : x9_22 = true
            ·subst c39
             have H1 : (if 0 < (x1_1.length : Int) then (if 1 ≤ (x1_1.length : Int) then ((some (x1_1.drop 1 : List Int)).bind fun y215 => ((post_Both_1.f x8_12 true).bind fun t220 => (if t220 = true then (if x7_1.length < 17592186044416 then (post_join_of68.l0 kj32 x0_32 y215 (x7_1 ++ [rd x1_1 0])) else (none)) else (post_join_of68.l0 kj32 x0_32 y215 x7_1)))) else (none)) else (none)) = some r := by rw [if_pos rfl] at H; exact H
             clear H
             have H := H1
             clear H1
             by_cases c40 : 0 < (x1_1.length : Int)
             ·rw [if_pos c40] at H
              have c40b0 : decide (0 < (x1_1.length : Int)) = true := decide_eq_true c40
              have c40b1 : decide (0 < x1_1.length) = true := decide_eq_true (by omega)
              clear c40
              by_cases c41 : 1 ≤ (x1_1.length : Int)
              ·rw [if_pos c41] at H
               have c41b0 := eq_true c41
               have c41b1 : decide (1 ≤ (x1_1.length : Int)) = true := decide_eq_true c41
               clear c41
               obtain ⟨y215, hy215⟩ : ∃ y_ : List Int, y_ = (x1_1.drop 1) := ⟨_, rfl⟩
               replace H : ((post_Both_1.f x8_12 true).bind fun t220 => (if t220 = true then (if x7_1.length < 17592186044416 then (post_join_of68.l0 kj32 x0_32 y215 (x7_1 ++ [rd x1_1 0])) else (none)) else (post_join_of68.l0 kj32 x0_32 y215 x7_1))) = some r := by first | (rw [hy215]; with_reducible exact H) | (have H2_ := (Option.bind_some _ _).symm.trans H; rw [hy215]; with_reducible exact H2_) | (have H2_ := (Option.bind_some _ _).symm.trans H; with_reducible exact H2_) | with_reducible exact H | (rw [hy215]; exact H) | exact H
               have Ny215 := Aside0.mk hy215
               clear hy215
               replace H := Option.bind_eq_some_iff.mp H
               obtain ⟨t220, A420, H⟩ := H
               replace H : (if t220 = true then (if x7_1.length < 17592186044416 then (post_join_of68.l0 kj32 x0_32 y215 (x7_1 ++ [rd x1_1 0])) else (none)) else (post_join_of68.l0 kj32 x0_32 y215 x7_1)) = some r := H
               have A42 := Aside0.mk A420
               clear A420
               by_cases c43 : t220 = true
               ·subst c43
                have H1 : (if x7_1.length < 17592186044416 then (post_join_of68.l0 kj32 x0_32 y215 (x7_1 ++ [rd x1_1 0])) else (none)) = some r := by rw [if_pos rfl] at H; exact H
                clear H
                have H := H1
                clear H1
                by_cases c44 : x7_1.length < 17592186044416
                ·rw [if_pos c44] at H
                 have LMc44 := Aside0.mk c44
                 clear c44
                 obtain ⟨y221, hy221⟩ : ∃ y_ : List Int, y_ = (x7_1 ++ [rd x1_1 0]) := ⟨_, rfl⟩
                 replace H : (post_join_of68.l0 kj32 x0_32 y215 y221) = some r := by first | (rw [hy221]; with_reducible exact H) | (have H2_ := (Option.bind_some _ _).symm.trans H; rw [hy221]; with_reducible exact H2_) | (have H2_ := (Option.bind_some _ _).symm.trans H; with_reducible exact H2_) | with_reducible exact H | (rw [hy221]; exact H) | exact H
                 have Ny221 := Aside0.mk hy221
                 clear hy221
                 have H' := Aside0.mk H
                 clear H
                 obtain ⟨Ao45, co45, eo45⟩ := Kd.V_slice HO_1.out
                 subst eo45
                 have p214 : 0 ≤ (0 : Int) := (by omega)
                 have q214 : 0 < (x1_1.length : Int) := of_decide_eq_true (by first | (with_reducible assumption) | assumption)
                 obtain ⟨ad214, e214, hx214_0⟩ := Kd.at_int (Kd.V_reads' HO_1.out).2.2 0 p214 q214
                 cases e214
                 have qi214 : (0 < x1_1.length) = True := eq_true (by omega)
                 (try rw [show ((0 : Int)).toNat = 0 from rfl] at hx214_0)
                 (try rw [Addr.add_zero'] at hx214_0)
                 replace p214 := eq_true p214
                 replace q214 := eq_true q214
                 have q46 : (1 : Int) ≤ ((x1_1.length : Int) : Int) := of_decide_eq_true (by first | (with_reducible assumption) | assumption)
                 obtain ⟨i046, hi046, _, hsz46, _⟩ := info_parts info3
                 have hroom46 : x1_1.length ≤ co45 := (Kd.V_reads' HO_1.out).2.1
                 have hC46 : Kd.F (Kd.int .i64) _ _ (some ad214) x1_1.length x1_1 := (Kd.V_at (base := w.heap.size) HO_1.out).2.2
                 have hcut46 := cut_from (P := Tryd.prog) 54 3 .i64 Tryd.underlying54 hi046 1 hsz46 (some ad214) x1_1.length co45 1 (by omega) q46
                 have hr46 := Kd.F_cut (m := (1 : Int).toNat) (c := co45) hC46 (by omega) hroom46
                 obtain ⟨A46, hA46⟩ : ∃ A1, A1 = (if co45 = (1 : Int).toNat then (some ad214) else ((some ad214) : Option Addr).map (·.add ((1 : Int).toNat * 1))) := ⟨_, rfl⟩
                 obtain ⟨c46, hc46⟩ : ∃ c1, c1 = co45 - (1 : Int).toNat := ⟨_, rfl⟩
                 have hy46 : y215.length = x1_1.length - (1 : Int).toNat := (by rw [Ny215.out, List.length_drop] <;> omega)
                 rw [show (x1_1).drop (1 : Int).toNat = y215 from Ny215.out.symm] at hr46
                 replace hr46 : Kd.F (Kd.int .i64) _ _ A46 y215.length y215 := (by rw [hA46]; exact hr46)
                 rw [← hy46, ← hA46, ← hc46] at hcut46
                 have HO219 := Aside0.mk (show Kd.V (Kd.int .i64) 3 _ w.heap.size _ (.slice A46 y215.length c46) y215 from Kd.V_mk (by rw [hy46, hc46]; exact Nat.sub_le_sub_right hroom46 _) hr46)
                 have HC219 := Aside0.mk (show y215.length ≤ c46 from by rw [hy46, hc46]; exact Nat.sub_le_sub_right hroom46 _)
                 clear hr46 hC46 hroom46 hi046 hsz46 hc46
                 have KY46 := Aside0.mk hy46
                 have KA46 := Aside0.mk hA46
                 clear hy46 hA46
                 replace q46 := eq_true q46
                 go_wp2_with (first | (go_at_call 68; (with_reducible refine (post_Both_1.calls x8_12 true true _ A42.out).mono ?_); rintro e w' ⟨rfl, ⟨nd, rfl⟩⟩; (try first | exact ⟨rfl, _, World.drewN_drewN _ _ _⟩ | exact ⟨rfl, _, Eq.trans (World.drewN_drewN _ _ _) (congrArg (World.drewN _) (Nat.add_assoc _ _ _))⟩)) | ((with_reducible refine gate_builtin (b := .append) (xs := #[.tmp 73, .tmp 75]) rfl ?_); (try (refine gate_guard (by rfl) ?_; dsimp only)); at_builtin; refine Kd.R_append (Kd.int .i64) (w0 := w) w.heap.size rfl (.tmp 73) (.tmp 75) 54 3 (.int .i64 0) 8 rfl Tryd.underlying54 info3 rfl (by decide) (by omega) u7 x7_1 (rd x1_1 0) [.int .i64 (rd x1_1 0)] (fun _ => True) (fun _ => False) rfl rfl ?aP (fun _ hk => hk.elim) ?aF ?aO ?aB ?aS ?aL ?_; (case aP => exact rfl); (case aB => exact (by repeat (first | (with_reducible first | exact HB.out | apply below_alloc | apply pw_below_drewN | apply below_drew1) | exact HB.out))); (case aF => exact (fun _ _ => trivial)); (case aO => exact (by (with_reducible repeat (first | apply Kd.R_alloc | apply Kd.R_drewN | apply Kd.R_drew)); exact HO_7.out)); (case aS => exact (below_size (by repeat (first | (with_reducible first | exact HB.out | apply below_alloc | apply pw_below_drewN | apply below_drew1) | exact HB.out)))); (case aL => have := LMc44.out; omega); intro v222 w47 ho hb hg hat; rw [← Ny221.out] at ho; have n0_ := Aside0.mk (Kd.V_afterv (ok := (fun _ => True)) (by (with_reducible repeat (first | apply Kd.V_alloc | apply Kd.V_drewN | apply Kd.V_drew)); exact Kd.V_mono HO_0.out (fun _ hk => ⟨trivial, hk⟩)) hg hat); have n1_ := Aside0.mk (Kd.V_afterv (ok := (fun _ => True)) (by (with_reducible repeat (first | apply Kd.V_alloc | apply Kd.V_drewN | apply Kd.V_drew)); exact Kd.V_mono HO_1.out (fun _ hk => ⟨trivial, hk⟩)) hg hat); have n2_ := Aside0.mk (Kd.V_afterv (ok := (fun _ => True)) (by (with_reducible repeat (first | apply Kd.V_alloc | apply Kd.V_drewN | apply Kd.V_drew)); exact Kd.V_mono HO219.out (fun _ hk => ⟨trivial, hk⟩)) hg hat); have n3_ := Aside0.mk (hb); have n4_ := Aside0.mk (ho); clear HO_0; clear HO_1; clear HO219; clear HB; clear HO_7; have HO_0 := n0_; have HO_1 := n1_; have HO219 := n2_; have HB := n3_; have HO223 := n4_; clear n0_ n1_ n2_ n3_ n4_; clear ho hb hg hat))
                 repeat (go_quiet (first | (go_at_call 68; (with_reducible refine (post_Both_1.calls x8_12 true true _ A42.out).mono ?_); rintro e w' ⟨rfl, ⟨nd, rfl⟩⟩; (try first | exact ⟨rfl, _, World.drewN_drewN _ _ _⟩ | exact ⟨rfl, _, Eq.trans (World.drewN_drewN _ _ _) (congrArg (World.drewN _) (Nat.add_assoc _ _ _))⟩)) | ((with_reducible refine gate_builtin (b := .append) (xs := #[.tmp 73, .tmp 75]) rfl ?_); (try (refine gate_guard (by rfl) ?_; dsimp only)); at_builtin; refine Kd.R_append (Kd.int .i64) (w0 := w) w.heap.size rfl (.tmp 73) (.tmp 75) 54 3 (.int .i64 0) 8 rfl Tryd.underlying54 info3 rfl (by decide) (by omega) u7 x7_1 (rd x1_1 0) [.int .i64 (rd x1_1 0)] (fun _ => True) (fun _ => False) rfl rfl ?aP (fun _ hk => hk.elim) ?aF ?aO ?aB ?aS ?aL ?_; (case aP => exact rfl); (case aB => exact (by repeat (first | (with_reducible first | exact HB.out | apply below_alloc | apply pw_below_drewN | apply below_drew1) | exact HB.out))); (case aF => exact (fun _ _ => trivial)); (case aO => exact (by (with_reducible repeat (first | apply Kd.R_alloc | apply Kd.R_drewN | apply Kd.R_drew)); exact HO_7.out)); (case aS => exact (below_size (by repeat (first | (with_reducible first | exact HB.out | apply below_alloc | apply pw_below_drewN | apply below_drew1) | exact HB.out)))); (case aL => have := LMc44.out; omega); intro v222 w47 ho hb hg hat; rw [← Ny221.out] at ho; have n0_ := Aside0.mk (Kd.V_afterv (ok := (fun _ => True)) (by (with_reducible repeat (first | apply Kd.V_alloc | apply Kd.V_drewN | apply Kd.V_drew)); exact Kd.V_mono HO_0.out (fun _ hk => ⟨trivial, hk⟩)) hg hat); have n1_ := Aside0.mk (Kd.V_afterv (ok := (fun _ => True)) (by (with_reducible repeat (first | apply Kd.V_alloc | apply Kd.V_drewN | apply Kd.V_drew)); exact Kd.V_mono HO_1.out (fun _ hk => ⟨trivial, hk⟩)) hg hat); have n2_ := Aside0.mk (Kd.V_afterv (ok := (fun _ => True)) (by (with_reducible repeat (first | apply Kd.V_alloc | apply Kd.V_drewN | apply Kd.V_drew)); exact Kd.V_mono HO219.out (fun _ hk => ⟨trivial, hk⟩)) hg hat); have n3_ := Aside0.mk (hb); have n4_ := Aside0.mk (ho); clear HO_0; clear HO_1; clear HO219; clear HB; clear HO_7; have HO_0 := n0_; have HO_1 := n1_; have HO219 := n2_; have HB := n3_; have HO223 := n4_; clear n0_ n1_ n2_ n3_ n4_; clear ho hb hg hat)); try go_wp2_with (first | (go_at_call 68; (with_reducible refine (post_Both_1.calls x8_12 true true _ A42.out).mono ?_); rintro e w' ⟨rfl, ⟨nd, rfl⟩⟩; (try first | exact ⟨rfl, _, World.drewN_drewN _ _ _⟩ | exact ⟨rfl, _, Eq.trans (World.drewN_drewN _ _ _) (congrArg (World.drewN _) (Nat.add_assoc _ _ _))⟩)) | ((with_reducible refine gate_builtin (b := .append) (xs := #[.tmp 73, .tmp 75]) rfl ?_); (try (refine gate_guard (by rfl) ?_; dsimp only)); at_builtin; refine Kd.R_append (Kd.int .i64) (w0 := w) w.heap.size rfl (.tmp 73) (.tmp 75) 54 3 (.int .i64 0) 8 rfl Tryd.underlying54 info3 rfl (by decide) (by omega) u7 x7_1 (rd x1_1 0) [.int .i64 (rd x1_1 0)] (fun _ => True) (fun _ => False) rfl rfl ?aP (fun _ hk => hk.elim) ?aF ?aO ?aB ?aS ?aL ?_; (case aP => exact rfl); (case aB => exact (by repeat (first | (with_reducible first | exact HB.out | apply below_alloc | apply pw_below_drewN | apply below_drew1) | exact HB.out))); (case aF => exact (fun _ _ => trivial)); (case aO => exact (by (with_reducible repeat (first | apply Kd.R_alloc | apply Kd.R_drewN | apply Kd.R_drew)); exact HO_7.out)); (case aS => exact (below_size (by repeat (first | (with_reducible first | exact HB.out | apply below_alloc | apply pw_below_drewN | apply below_drew1) | exact HB.out)))); (case aL => have := LMc44.out; omega); intro v222 w47 ho hb hg hat; rw [← Ny221.out] at ho; have n0_ := Aside0.mk (Kd.V_afterv (ok := (fun _ => True)) (by (with_reducible repeat (first | apply Kd.V_alloc | apply Kd.V_drewN | apply Kd.V_drew)); exact Kd.V_mono HO_0.out (fun _ hk => ⟨trivial, hk⟩)) hg hat); have n1_ := Aside0.mk (Kd.V_afterv (ok := (fun _ => True)) (by (with_reducible repeat (first | apply Kd.V_alloc | apply Kd.V_drewN | apply Kd.V_drew)); exact Kd.V_mono HO_1.out (fun _ hk => ⟨trivial, hk⟩)) hg hat); have n2_ := Aside0.mk (Kd.V_afterv (ok := (fun _ => True)) (by (with_reducible repeat (first | apply Kd.V_alloc | apply Kd.V_drewN | apply Kd.V_drew)); exact Kd.V_mono HO219.out (fun _ hk => ⟨trivial, hk⟩)) hg hat); have n3_ := Aside0.mk (hb); have n4_ := Aside0.mk (ho); clear HO_0; clear HO_1; clear HO219; clear HB; clear HO_7; have HO_0 := n0_; have HO_1 := n1_; have HO219 := n2_; have HB := n3_; have HO223 := n4_; clear n0_ n1_ n2_ n3_ n4_; clear ho hb hg hat)))
                 go_roundg kj32
                 case measure => have := HK1.out; have := HJ6.out; have := HJ12.out; have := HJ22.out; have := HJ32.out; omega
                 case rel => exact ⟨(x0_32), (y215), (y221), H', ⟨by have := HK1.out; have := HJ6.out; have := HJ12.out; have := HJ22.out; have := HJ32.out; omega⟩, ⟨by (with_reducible repeat (first | apply Kd.V_alloc | apply Kd.V_drewN | apply Kd.V_drew)); exact Kd.V_mono HO_0.out (fun _ hk => hk.2)⟩, ⟨by (with_reducible repeat (first | apply Kd.V_alloc | apply Kd.V_drewN | apply Kd.V_drew)); exact Kd.V_mono HO219.out (fun _ hk => hk.2)⟩, ⟨by (with_reducible repeat (first | apply Kd.R_alloc | apply Kd.R_drewN | apply Kd.R_drew)); exact HO223.out⟩, ⟨by repeat (first | (with_reducible first | exact HB.out | apply below_alloc | apply pw_below_drewN | apply below_drew1) | exact HB.out)⟩⟩
                ·rw [if_neg c44] at H
                 exact absurd H (by simp)
               ·replace c43 := Bool.eq_false_iff.mpr c43
                subst c43
                have H1 : (post_join_of68.l0 kj32 x0_32 y215 x7_1) = some r := by rw [if_neg (show ¬ (false = true) by decide)] at H; exact H
                clear H
                have H := H1
                clear H1
                have H' := Aside0.mk H
                clear H
                obtain ⟨Ao48, co48, eo48⟩ := Kd.V_slice HO_1.out
                subst eo48
                have p214 : 0 ≤ (0 : Int) := (by omega)
                have q214 : 0 < (x1_1.length : Int) := of_decide_eq_true (by first | (with_reducible assumption) | assumption)
                obtain ⟨ad214, e214, hx214_0⟩ := Kd.at_int (Kd.V_reads' HO_1.out).2.2 0 p214 q214
                cases e214
                have qi214 : (0 < x1_1.length) = True := eq_true (by omega)
                (try rw [show ((0 : Int)).toNat = 0 from rfl] at hx214_0)
                (try rw [Addr.add_zero'] at hx214_0)
                replace p214 := eq_true p214
                replace q214 := eq_true q214
                have q49 : (1 : Int) ≤ ((x1_1.length : Int) : Int) := of_decide_eq_true (by first | (with_reducible assumption) | assumption)
                obtain ⟨i049, hi049, _, hsz49, _⟩ := info_parts info3
                have hroom49 : x1_1.length ≤ co48 := (Kd.V_reads' HO_1.out).2.1
                have hC49 : Kd.F (Kd.int .i64) _ _ (some ad214) x1_1.length x1_1 := (Kd.V_at (base := w.heap.size) HO_1.out).2.2
                have hcut49 := cut_from (P := Tryd.prog) 54 3 .i64 Tryd.underlying54 hi049 1 hsz49 (some ad214) x1_1.length co48 1 (by omega) q49
                have hr49 := Kd.F_cut (m := (1 : Int).toNat) (c := co48) hC49 (by omega) hroom49
                obtain ⟨A49, hA49⟩ : ∃ A1, A1 = (if co48 = (1 : Int).toNat then (some ad214) else ((some ad214) : Option Addr).map (·.add ((1 : Int).toNat * 1))) := ⟨_, rfl⟩
                obtain ⟨c49, hc49⟩ : ∃ c1, c1 = co48 - (1 : Int).toNat := ⟨_, rfl⟩
                have hy49 : y215.length = x1_1.length - (1 : Int).toNat := (by rw [Ny215.out, List.length_drop] <;> omega)
                rw [show (x1_1).drop (1 : Int).toNat = y215 from Ny215.out.symm] at hr49
                replace hr49 : Kd.F (Kd.int .i64) _ _ A49 y215.length y215 := (by rw [hA49]; exact hr49)
                rw [← hy49, ← hA49, ← hc49] at hcut49
                have HO219 := Aside0.mk (show Kd.V (Kd.int .i64) 3 _ w.heap.size _ (.slice A49 y215.length c49) y215 from Kd.V_mk (by rw [hy49, hc49]; exact Nat.sub_le_sub_right hroom49 _) hr49)
                have HC219 := Aside0.mk (show y215.length ≤ c49 from by rw [hy49, hc49]; exact Nat.sub_le_sub_right hroom49 _)
                clear hr49 hC49 hroom49 hi049 hsz49 hc49
                have KY49 := Aside0.mk hy49
                have KA49 := Aside0.mk hA49
                clear hy49 hA49
                replace q49 := eq_true q49
                go_wp2_with (first | (go_at_call 68; (with_reducible refine (post_Both_1.calls x8_12 true false _ A42.out).mono ?_); rintro e w' ⟨rfl, ⟨nd, rfl⟩⟩; (try first | exact ⟨rfl, _, World.drewN_drewN _ _ _⟩ | exact ⟨rfl, _, Eq.trans (World.drewN_drewN _ _ _) (congrArg (World.drewN _) (Nat.add_assoc _ _ _))⟩)))
                repeat (go_quiet (first | (go_at_call 68; (with_reducible refine (post_Both_1.calls x8_12 true false _ A42.out).mono ?_); rintro e w' ⟨rfl, ⟨nd, rfl⟩⟩; (try first | exact ⟨rfl, _, World.drewN_drewN _ _ _⟩ | exact ⟨rfl, _, Eq.trans (World.drewN_drewN _ _ _) (congrArg (World.drewN _) (Nat.add_assoc _ _ _))⟩))); try go_wp2_with (first | (go_at_call 68; (with_reducible refine (post_Both_1.calls x8_12 true false _ A42.out).mono ?_); rintro e w' ⟨rfl, ⟨nd, rfl⟩⟩; (try first | exact ⟨rfl, _, World.drewN_drewN _ _ _⟩ | exact ⟨rfl, _, Eq.trans (World.drewN_drewN _ _ _) (congrArg (World.drewN _) (Nat.add_assoc _ _ _))⟩))))
                go_roundg kj32
                case measure => have := HK1.out; have := HJ6.out; have := HJ12.out; have := HJ22.out; have := HJ32.out; omega
                case rel => exact ⟨(x0_32), (y215), (x7_1), H', ⟨by have := HK1.out; have := HJ6.out; have := HJ12.out; have := HJ22.out; have := HJ32.out; omega⟩, ⟨by (with_reducible repeat (first | apply Kd.V_alloc | apply Kd.V_drewN | apply Kd.V_drew)); exact HO_0.out⟩, ⟨by (with_reducible repeat (first | apply Kd.V_alloc | apply Kd.V_drewN | apply Kd.V_drew)); exact HO219.out⟩, ⟨by (with_reducible repeat (first | apply Kd.R_alloc | apply Kd.R_drewN | apply Kd.R_drew)); exact HO_7.out⟩, ⟨by repeat (first | (with_reducible first | exact HB.out | apply below_alloc | apply pw_below_drewN | apply below_drew1) | exact HB.out)⟩⟩
              ·rw [if_neg c41] at H
               exact absurd H (by simp)
             ·rw [if_neg c40] at H
              exact absurd H (by simp)
            ·replace c39 := Bool.eq_false_iff.mpr c39
             subst c39
             have H1 : ((post_Both_1.f x8_12 false).bind fun t224 => (if t224 = true then (if x7_1.length < 17592186044416 then (post_join_of68.l0 kj32 x0_32 x1_1 (x7_1 ++ [x10_32])) else (none)) else (post_join_of68.l0 kj32 x0_32 x1_1 x7_1))) = some r := by rw [if_neg (show ¬ (false = true) by decide)] at H; exact H
             clear H
             have H := H1
             clear H1
             replace H := Option.bind_eq_some_iff.mp H
             obtain ⟨t224, A500, H⟩ := H
             replace H : (if t224 = true then (if x7_1.length < 17592186044416 then (post_join_of68.l0 kj32 x0_32 x1_1 (x7_1 ++ [x10_32])) else (none)) else (post_join_of68.l0 kj32 x0_32 x1_1 x7_1)) = some r := H
             have A50 := Aside0.mk A500
             clear A500
             by_cases c51 : t224 = true
             ·subst c51
              have H1 : (if x7_1.length < 17592186044416 then (post_join_of68.l0 kj32 x0_32 x1_1 (x7_1 ++ [x10_32])) else (none)) = some r := by rw [if_pos rfl] at H; exact H
              clear H
              have H := H1
              clear H1
              by_cases c52 : x7_1.length < 17592186044416
              ·rw [if_pos c52] at H
               have LMc52 := Aside0.mk c52
               clear c52
               obtain ⟨y225, hy225⟩ : ∃ y_ : List Int, y_ = (x7_1 ++ [x10_32]) := ⟨_, rfl⟩
               replace H : (post_join_of68.l0 kj32 x0_32 x1_1 y225) = some r := by first | (rw [hy225]; with_reducible exact H) | (have H2_ := (Option.bind_some _ _).symm.trans H; rw [hy225]; with_reducible exact H2_) | (have H2_ := (Option.bind_some _ _).symm.trans H; with_reducible exact H2_) | with_reducible exact H | (rw [hy225]; exact H) | exact H
               have Ny225 := Aside0.mk hy225
               clear hy225
               have H' := Aside0.mk H
               clear H
               go_wp2_with (first | (go_at_call 68; (with_reducible refine (post_Both_1.calls x8_12 false true _ A50.out).mono ?_); rintro e w' ⟨rfl, ⟨nd, rfl⟩⟩; (try first | exact ⟨rfl, _, World.drewN_drewN _ _ _⟩ | exact ⟨rfl, _, Eq.trans (World.drewN_drewN _ _ _) (congrArg (World.drewN _) (Nat.add_assoc _ _ _))⟩)) | ((with_reducible refine gate_builtin (b := .append) (xs := #[.tmp 73, .tmp 75]) rfl ?_); (try (refine gate_guard (by rfl) ?_; dsimp only)); at_builtin; refine Kd.R_append (Kd.int .i64) (w0 := w) w.heap.size rfl (.tmp 73) (.tmp 75) 54 3 (.int .i64 0) 8 rfl Tryd.underlying54 info3 rfl (by decide) (by omega) u7 x7_1 x10_32 [.int .i64 x10_32] (fun _ => True) (fun _ => False) rfl rfl ?aP (fun _ hk => hk.elim) ?aF ?aO ?aB ?aS ?aL ?_; (case aP => exact rfl); (case aB => exact (by repeat (first | (with_reducible first | exact HB.out | apply below_alloc | apply pw_below_drewN | apply below_drew1) | exact HB.out))); (case aF => exact (fun _ _ => trivial)); (case aO => exact (by (with_reducible repeat (first | apply Kd.R_alloc | apply Kd.R_drewN | apply Kd.R_drew)); exact HO_7.out)); (case aS => exact (below_size (by repeat (first | (with_reducible first | exact HB.out | apply below_alloc | apply pw_below_drewN | apply below_drew1) | exact HB.out)))); (case aL => have := LMc52.out; omega); intro v226 w53 ho hb hg hat; rw [← Ny225.out] at ho; have n0_ := Aside0.mk (Kd.V_afterv (ok := (fun _ => True)) (by (with_reducible repeat (first | apply Kd.V_alloc | apply Kd.V_drewN | apply Kd.V_drew)); exact Kd.V_mono HO_0.out (fun _ hk => ⟨trivial, hk⟩)) hg hat); have n1_ := Aside0.mk (Kd.V_afterv (ok := (fun _ => True)) (by (with_reducible repeat (first | apply Kd.V_alloc | apply Kd.V_drewN | apply Kd.V_drew)); exact Kd.V_mono HO_1.out (fun _ hk => ⟨trivial, hk⟩)) hg hat); have n2_ := Aside0.mk (hb); have n3_ := Aside0.mk (ho); clear HO_0; clear HO_1; clear HB; clear HO_7; have HO_0 := n0_; have HO_1 := n1_; have HB := n2_; have HO227 := n3_; clear n0_ n1_ n2_ n3_; clear ho hb hg hat))
               repeat (go_quiet (first | (go_at_call 68; (with_reducible refine (post_Both_1.calls x8_12 false true _ A50.out).mono ?_); rintro e w' ⟨rfl, ⟨nd, rfl⟩⟩; (try first | exact ⟨rfl, _, World.drewN_drewN _ _ _⟩ | exact ⟨rfl, _, Eq.trans (World.drewN_drewN _ _ _) (congrArg (World.drewN _) (Nat.add_assoc _ _ _))⟩)) | ((with_reducible refine gate_builtin (b := .append) (xs := #[.tmp 73, .tmp 75]) rfl ?_); (try (refine gate_guard (by rfl) ?_; dsimp only)); at_builtin; refine Kd.R_append (Kd.int .i64) (w0 := w) w.heap.size rfl (.tmp 73) (.tmp 75) 54 3 (.int .i64 0) 8 rfl Tryd.underlying54 info3 rfl (by decide) (by omega) u7 x7_1 x10_32 [.int .i64 x10_32] (fun _ => True) (fun _ => False) rfl rfl ?aP (fun _ hk => hk.elim) ?aF ?aO ?aB ?aS ?aL ?_; (case aP => exact rfl); (case aB => exact (by repeat (first | (with_reducible first | exact HB.out | apply below_alloc | apply pw_below_drewN | apply below_drew1) | exact HB.out))); (case aF => exact (fun _ _ => trivial)); (case aO => exact (by (with_reducible repeat (first | apply Kd.R_alloc | apply Kd.R_drewN | apply Kd.R_drew)); exact HO_7.out)); (case aS => exact (below_size (by repeat (first | (with_reducible first | exact HB.out | apply below_alloc | apply pw_below_drewN | apply below_drew1) | exact HB.out)))); (case aL => have := LMc52.out; omega); intro v226 w53 ho hb hg hat; rw [← Ny225.out] at ho; have n0_ := Aside0.mk (Kd.V_afterv (ok := (fun _ => True)) (by (with_reducible repeat (first | apply Kd.V_alloc | apply Kd.V_drewN | apply Kd.V_drew)); exact Kd.V_mono HO_0.out (fun _ hk => ⟨trivial, hk⟩)) hg hat); have n1_ := Aside0.mk (Kd.V_afterv (ok := (fun _ => True)) (by (with_reducible repeat (first | apply Kd.V_alloc | apply Kd.V_drewN | apply Kd.V_drew)); exact Kd.V_mono HO_1.out (fun _ hk => ⟨trivial, hk⟩)) hg hat); have n2_ := Aside0.mk (hb); have n3_ := Aside0.mk (ho); clear HO_0; clear HO_1; clear HB; clear HO_7; have HO_0 := n0_; have HO_1 := n1_; have HB := n2_; have HO227 := n3_; clear n0_ n1_ n2_ n3_; clear ho hb hg hat)); try go_wp2_with (first | (go_at_call 68; (with_reducible refine (post_Both_1.calls x8_12 false true _ A50.out).mono ?_); rintro e w' ⟨rfl, ⟨nd, rfl⟩⟩; (try first | exact ⟨rfl, _, World.drewN_drewN _ _ _⟩ | exact ⟨rfl, _, Eq.trans (World.drewN_drewN _ _ _) (congrArg (World.drewN _) (Nat.add_assoc _ _ _))⟩)) | ((with_reducible refine gate_builtin (b := .append) (xs := #[.tmp 73, .tmp 75]) rfl ?_); (try (refine gate_guard (by rfl) ?_; dsimp only)); at_builtin; refine Kd.R_append (Kd.int .i64) (w0 := w) w.heap.size rfl (.tmp 73) (.tmp 75) 54 3 (.int .i64 0) 8 rfl Tryd.underlying54 info3 rfl (by decide) (by omega) u7 x7_1 x10_32 [.int .i64 x10_32] (fun _ => True) (fun _ => False) rfl rfl ?aP (fun _ hk => hk.elim) ?aF ?aO ?aB ?aS ?aL ?_; (case aP => exact rfl); (case aB => exact (by repeat (first | (with_reducible first | exact HB.out | apply below_alloc | apply pw_below_drewN | apply below_drew1) | exact HB.out))); (case aF => exact (fun _ _ => trivial)); (case aO => exact (by (with_reducible repeat (first | apply Kd.R_alloc | apply Kd.R_drewN | apply Kd.R_drew)); exact HO_7.out)); (case aS => exact (below_size (by repeat (first | (with_reducible first | exact HB.out | apply below_alloc | apply pw_below_drewN | apply below_drew1) | exact HB.out)))); (case aL => have := LMc52.out; omega); intro v226 w53 ho hb hg hat; rw [← Ny225.out] at ho; have n0_ := Aside0.mk (Kd.V_afterv (ok := (fun _ => True)) (by (with_reducible repeat (first | apply Kd.V_alloc | apply Kd.V_drewN | apply Kd.V_drew)); exact Kd.V_mono HO_0.out (fun _ hk => ⟨trivial, hk⟩)) hg hat); have n1_ := Aside0.mk (Kd.V_afterv (ok := (fun _ => True)) (by (with_reducible repeat (first | apply Kd.V_alloc | apply Kd.V_drewN | apply Kd.V_drew)); exact Kd.V_mono HO_1.out (fun _ hk => ⟨trivial, hk⟩)) hg hat); have n2_ := Aside0.mk (hb); have n3_ := Aside0.mk (ho); clear HO_0; clear HO_1; clear HB; clear HO_7; have HO_0 := n0_; have HO_1 := n1_; have HB := n2_; have HO227 := n3_; clear n0_ n1_ n2_ n3_; clear ho hb hg hat)))
               go_roundg kj32
               case measure => have := HK1.out; have := HJ6.out; have := HJ12.out; have := HJ22.out; have := HJ32.out; omega
               case rel => exact ⟨(x0_32), (x1_1), (y225), H', ⟨by have := HK1.out; have := HJ6.out; have := HJ12.out; have := HJ22.out; have := HJ32.out; omega⟩, ⟨by (with_reducible repeat (first | apply Kd.V_alloc | apply Kd.V_drewN | apply Kd.V_drew)); exact Kd.V_mono HO_0.out (fun _ hk => hk.2)⟩, ⟨by (with_reducible repeat (first | apply Kd.V_alloc | apply Kd.V_drewN | apply Kd.V_drew)); exact Kd.V_mono HO_1.out (fun _ hk => hk.2)⟩, ⟨by (with_reducible repeat (first | apply Kd.R_alloc | apply Kd.R_drewN | apply Kd.R_drew)); exact HO227.out⟩, ⟨by repeat (first | (with_reducible first | exact HB.out | apply below_alloc | apply pw_below_drewN | apply below_drew1) | exact HB.out)⟩⟩
              ·rw [if_neg c52] at H
               exact absurd H (by simp)
             ·replace c51 := Bool.eq_false_iff.mpr c51
              subst c51
              have H1 : (post_join_of68.l0 kj32 x0_32 x1_1 x7_1) = some r := by rw [if_neg (show ¬ (false = true) by decide)] at H; exact H
              clear H
              have H := H1
              clear H1
              have H' := Aside0.mk H
              clear H
              go_wp2_with (first | (go_at_call 68; (with_reducible refine (post_Both_1.calls x8_12 false false _ A50.out).mono ?_); rintro e w' ⟨rfl, ⟨nd, rfl⟩⟩; (try first | exact ⟨rfl, _, World.drewN_drewN _ _ _⟩ | exact ⟨rfl, _, Eq.trans (World.drewN_drewN _ _ _) (congrArg (World.drewN _) (Nat.add_assoc _ _ _))⟩)))
              repeat (go_quiet (first | (go_at_call 68; (with_reducible refine (post_Both_1.calls x8_12 false false _ A50.out).mono ?_); rintro e w' ⟨rfl, ⟨nd, rfl⟩⟩; (try first | exact ⟨rfl, _, World.drewN_drewN _ _ _⟩ | exact ⟨rfl, _, Eq.trans (World.drewN_drewN _ _ _) (congrArg (World.drewN _) (Nat.add_assoc _ _ _))⟩))); try go_wp2_with (first | (go_at_call 68; (with_reducible refine (post_Both_1.calls x8_12 false false _ A50.out).mono ?_); rintro e w' ⟨rfl, ⟨nd, rfl⟩⟩; (try first | exact ⟨rfl, _, World.drewN_drewN _ _ _⟩ | exact ⟨rfl, _, Eq.trans (World.drewN_drewN _ _ _) (congrArg (World.drewN _) (Nat.add_assoc _ _ _))⟩))))
              go_roundg kj32
              case measure => have := HK1.out; have := HJ6.out; have := HJ12.out; have := HJ22.out; have := HJ32.out; omega
              case rel => exact ⟨(x0_32), (x1_1), (x7_1), H', ⟨by have := HK1.out; have := HJ6.out; have := HJ12.out; have := HJ22.out; have := HJ32.out; omega⟩, ⟨by (with_reducible repeat (first | apply Kd.V_alloc | apply Kd.V_drewN | apply Kd.V_drew)); exact HO_0.out⟩, ⟨by (with_reducible repeat (first | apply Kd.V_alloc | apply Kd.V_drewN | apply Kd.V_drew)); exact HO_1.out⟩, ⟨by (with_reducible repeat (first | apply Kd.R_alloc | apply Kd.R_drewN | apply Kd.R_drew)); exact HO_7.out⟩, ⟨by repeat (first | (with_reducible first | exact HB.out | apply below_alloc | apply pw_below_drewN | apply below_drew1) | exact HB.out)⟩⟩
     ·replace c12 := Bool.eq_false_iff.mpr c12
      subst c12
      have H1 : (some x7_1) = some r := by rw [if_neg (show ¬ (false = true) by decide)] at H; exact H
      clear H
      have H := H1
      clear H1
      obtain rfl := Option.some.inj H
      go_wp2
      repeat (go_quiet (fail); try go_wp2)
      go_ret
      exact ⟨_, by first | rfl | (simp [errW_none, errW_some] <;> rfl) | (simp [*, errW_none, errW_some] <;> rfl), by (with_reducible repeat (first | apply Kd.R_alloc | apply Kd.R_drewN | apply Kd.R_drew)); exact HO_7.out, by repeat (first | (with_reducible first | exact HB.out | apply below_alloc | apply pw_below_drewN | apply below_drew1) | exact HB.out)⟩
end Go.Proofs.YtgcfhgkhokljcaaDoor.PA
namespace Go.Proofs.YtgcfhgkhokljcaaDoor.PA
open Go.RowKit Go.Proofs.YtgcfhgkhokljcaaDoorW.PrintWords Go.Proofs.YtgcfhgkhokljcaaDoorW.PrintLast Go.Proofs.YtgcfhgkhokljcaaDoorW.PrintMore
attribute [local go_sem] max2_int min2_int max_two min_two max_three min_three max_four min_four   -- for this text's walks alone
set_option linter.unusedVariables false
set_option linter.unusedSimpArgs false
/-! ### post_Both: function 52 -/
def post_Both.f (k : Nat) (l0 : List Int) (l1 : List Int) : Option (List Int) := (post_join_of68.f k l0 l1).bind fun t228 => (some t228)
theorem post_Both.mono : ∀ a0 a1 k, LeO (post_Both.f k a0 a1) (post_Both.f (k + 1) a0 a1) := by
 intro a0 a1 k
 unfold post_Both.f
 repeat' first
   | (with_reducible exact post_join_of68.mono _ _ _)
   | (with_reducible exact LeO.refl _)
   | (with_reducible exact LeO.none _)
   | (with_reducible refine LeO.ite ?_ ?_)
   | (with_reducible refine LeO.bind ?_ (fun _ => ?_))
set_option maxHeartbeats 8000000 in
set_option maxRecDepth 100000 in
theorem post_Both.calls (k : Nat) (A0 : Option Addr) (c0 : Nat) (l0 : List Int) (A1 : Option Addr) (c1 : Nat) (l1 : List Int) (r : List Int) (w : World) (hr0 : Kd.C (Kd.int .i64) w A0 l0.length l0) (hc0 : l0.length ≤ c0) (hr1 : Kd.C (Kd.int .i64) w A1 l1.length l1) (hc1 : l1.length ≤ c1) (h : post_Both.f k l0 l1 = some r) :
  Calls Tryd.prog 52 #[.slice A0 l0.length c0, .slice A1 l1.length c1] w fun e w' => ∃ v0_ : Value, e = .returned (v0_) ∧ Kd.R (Kd.int .i64) 3 w' w.heap.size (fun _ => True) v0_ r ∧ Below w.heap.size w w' := by
 have HR0 := Aside0.mk hr0
 have HC0 := Aside0.mk hc0
 clear hr0 hc0
 have HR1 := Aside0.mk hr1
 have HC1 := Aside0.mk hc1
 clear hr1 hc1
 have HB := Aside0.mk (Below.refl w.heap.size w)
 have H : ((post_join_of68.f k l0 l1).bind fun t228 => (some t228)) = some r := h
 clear h
 replace H := Option.bind_eq_some_iff.mp H
 obtain ⟨t228, A30, H⟩ := H
 replace H : (some t228) = some r := H
 have A3 := Aside0.mk A30
 clear A30
 obtain rfl := Option.some.inj H
 go_enter Tryd.func52, Tryd.ntmps52
 go_wp2_with (first | ((with_reducible refine gate_callee (f := 67) rfl ?_); refine goesL_ (some 7) rfl rfl Tryd.func67 (by kernel_rfl) rfl #[.slice A0 l0.length c0, .slice A1 l1.length c1, .func (.func 68) #[] #[]] rfl (by (try simp only [List.map_toArray, List.map_cons, List.map_nil]); first | done | rfl | (simp only [List.length_drop, List.length_take]; rfl)) ?_; (with_reducible refine (post_join_of68.calls k _ _ l0 _ _ l1 t228 _ ?side1 ?side2 ?side3 ?side4 A3.out).mono ?_); (case side1 => repeat (first | exact HR0.out | (with_reducible refine Kd.C_alloc ?_ _) | (with_reducible refine Kd.C_drewN ?_ _) | (with_reducible refine Kd.C_drew ?_))); (case side2 => exact HC0.out); (case side3 => repeat (first | exact HR1.out | (with_reducible refine Kd.C_alloc ?_ _) | (with_reducible refine Kd.C_drewN ?_ _) | (with_reducible refine Kd.C_drew ?_))); (case side4 => exact HC1.out); rintro e w4 ⟨v229, rfl, ho0, hb⟩; refine ⟨_, rfl, ?_⟩; have n0_ := Aside0.mk (Kd.R_lower ho0 (below_size (by repeat (first | (with_reducible first | exact HB.out | apply below_alloc | apply pw_below_drewN | apply below_drew1) | exact HB.out)))); have n1_ := Aside0.mk (below_step (by repeat (first | (with_reducible first | exact HB.out | apply below_alloc | apply pw_below_drewN | apply below_drew1) | exact HB.out)) hb); clear HB; have HO230 := n0_; have HB := n1_; clear n0_ n1_; (try clear hb); (try clear hb2); (try clear hk); (try clear hi); (try clear ho0)))
 go_ret
 exact ⟨_, by first | rfl | (simp [errW_none, errW_some] <;> rfl) | (simp [*, errW_none, errW_some] <;> rfl), by (with_reducible repeat (first | apply Kd.R_alloc | apply Kd.R_drewN | apply Kd.R_drew)); exact HO230.out, by repeat (first | (with_reducible first | exact HB.out | apply below_alloc | apply pw_below_drewN | apply below_drew1) | exact HB.out)⟩
/-! ### post_Either_1: function 69 -/
def post_Either_1.f (a0 : Bool) (a1 : Bool) : Option (Bool) := if a0 = true then (some true) else (some a1)
set_option maxHeartbeats 8000000 in
set_option maxRecDepth 100000 in
theorem post_Either_1.calls (a0 : Bool) (a1 : Bool) (r : Bool) (w : World) (h : post_Either_1.f a0 a1 = some r) :
  Calls Tryd.prog 69 #[.bool a0, .bool a1] w fun e w' => e = .returned (.bool r) ∧ Drawn0 w w' := by
 have H : (if a0 = true then (some true) else (some a1)) = some r := h
 clear h
 by_cases c3 : a0 = true
 ·subst c3
  have H1 : (some true) = some r := by rw [if_pos rfl] at H; exact H
  clear H
  have H := H1
  clear H1
  obtain rfl := Option.some.inj H
  go_enter Tryd.func69, Tryd.ntmps69
  go_wp2
  go_ret
  exact ⟨by first | rfl | (simp; done) | (simp [*]; done), by repeat (first | exact Drawn0.refl _ | apply Drawn0.step)⟩
 ·replace c3 := Bool.eq_false_iff.mpr c3
  subst c3
  have H1 : (some a1) = some r := by rw [if_neg (show ¬ (false = true) by decide)] at H; exact H
  clear H
  have H := H1
  clear H1
  obtain rfl := Option.some.inj H
  go_enter Tryd.func69, Tryd.ntmps69
  go_wp2
  go_ret
  exact ⟨by first | rfl | (simp; done) | (simp [*]; done), by repeat (first | exact Drawn0.refl _ | apply Drawn0.step)⟩
end Go.Proofs.YtgcfhgkhokljcaaDoor.PA
namespace Go.Proofs.YtgcfhgkhokljcaaDoor.PA
open Go.RowKit Go.Proofs.YtgcfhgkhokljcaaDoorW.PrintWords Go.Proofs.YtgcfhgkhokljcaaDoorW.PrintLast Go.Proofs.YtgcfhgkhokljcaaDoorW.PrintMore
attribute [local go_sem] max2_int min2_int max_two min_two max_three min_three max_four min_four   -- for this text's walks alone
set_option linter.unusedVariables false
set_option linter.unusedSimpArgs false
/-! ### post_join_of69: function 103 -/
mutual
def post_join_of69.l0 : Nat → List Int → List Int → List Int → Option (List Int)
 | 0, _, _, _ => none
 | k + 1, x0, x1, x7 => if (x0.length : Int) > 0 then (post_join_of69.j1 k x0 x1 x7 true) else (post_join_of69.j1 k x0 x1 x7 (decide ((x1.length : Int) > 0)))
def post_join_of69.j1 : Nat → List Int → List Int → List Int → Bool → Option (List Int)
 | 0, _, _, _, _ => none
 | k + 1, x0, x1, x7, x22 => if x22 = true then (if (x0.length : Int) > 0 then (if (x1.length : Int) = 0 then (post_join_of69.j2 k x0 x1 x7 true) else (if 0 < (x0.length : Int) then (if 0 < (x1.length : Int) then (post_join_of69.j2 k x0 x1 x7 (decide ((rd x0 0) ≤ (rd x1 0)))) else (none)) else (none))) else (post_join_of69.j2 k x0 x1 x7 false)) else (some x7)
def post_join_of69.j2 : Nat → List Int → List Int → List Int → Bool → Option (List Int)
 | 0, _, _, _, _ => none
 | k + 1, x0, x1, x7, x8 => if (x1.length : Int) > 0 then (if (x0.length : Int) = 0 then (post_join_of69.j3 k x0 x1 x7 x8 true) else (if 0 < (x1.length : Int) then (if 0 < (x0.length : Int) then (post_join_of69.j3 k x0 x1 x7 x8 (decide ((rd x1 0) ≤ (rd x0 0)))) else (none)) else (none))) else (post_join_of69.j3 k x0 x1 x7 x8 false)
def post_join_of69.j3 : Nat → List Int → List Int → List Int → Bool → Bool → Option (List Int)
 | 0, _, _, _, _, _ => none
 | k + 1, x0, x1, x7, x8, x9 => if x8 = true then (if 0 < (x0.length : Int) then (if 1 ≤ (x0.length : Int) then (post_join_of69.j4 k (x0.drop 1) x1 x7 x8 x9 (rd x0 0)) else (none)) else (none)) else (post_join_of69.j4 k x0 x1 x7 x8 x9 0)
def post_join_of69.j4 : Nat → List Int → List Int → List Int → Bool → Bool → Int → Option (List Int)
 | 0, _, _, _, _, _, _ => none
 | k + 1, x0, x1, x7, x8, x9, x10 => if x9 = true then (if 0 < (x1.length : Int) then (if 1 ≤ (x1.length : Int) then ((some (x1.drop 1 : List Int)).bind fun y248 => ((post_Either_1.f x8 x9).bind fun t253 => (if t253 = true then (if x7.length < 17592186044416 then (post_join_of69.l0 k x0 y248 (x7 ++ [rd x1 0])) else (none)) else (post_join_of69.l0 k x0 y248 x7)))) else (none)) else (none)) else ((post_Either_1.f x8 x9).bind fun t257 => (if t257 = true then (if x7.length < 17592186044416 then (post_join_of69.l0 k x0 x1 (x7 ++ [x10])) else (none)) else (post_join_of69.l0 k x0 x1 x7)))
end
def post_join_of69.f (k : Nat) (l0 : List Int) (l1 : List Int) : Option (List Int) := (post_good.f k l0).bind fun t231 => ((post_good.f k l1).bind fun t234 => (post_join_of69.l0 k t231 t234 ([] : List Int)))
theorem post_join_of69.mono_l : ∀ k, (∀ y0 y1 y2, LeO (post_join_of69.l0 k y0 y1 y2) (post_join_of69.l0 (k + 1) y0 y1 y2)) ∧ (∀ y0 y1 y2 y3, LeO (post_join_of69.j1 k y0 y1 y2 y3) (post_join_of69.j1 (k + 1) y0 y1 y2 y3)) ∧ (∀ y0 y1 y2 y3, LeO (post_join_of69.j2 k y0 y1 y2 y3) (post_join_of69.j2 (k + 1) y0 y1 y2 y3)) ∧ (∀ y0 y1 y2 y3 y4, LeO (post_join_of69.j3 k y0 y1 y2 y3 y4) (post_join_of69.j3 (k + 1) y0 y1 y2 y3 y4)) ∧ (∀ y0 y1 y2 y3 y4 y5, LeO (post_join_of69.j4 k y0 y1 y2 y3 y4 y5) (post_join_of69.j4 (k + 1) y0 y1 y2 y3 y4 y5))
 | 0 => ⟨fun _ _ _ r h => by simp [post_join_of69.l0] at h, fun _ _ _ _ r h => by simp [post_join_of69.j1] at h, fun _ _ _ _ r h => by simp [post_join_of69.j2] at h, fun _ _ _ _ _ r h => by simp [post_join_of69.j3] at h, fun _ _ _ _ _ _ r h => by simp [post_join_of69.j4] at h⟩
 | k + 1 => by
  obtain ⟨ih0, ih1, ih2, ih3, ih4⟩ := post_join_of69.mono_l k
  refine ⟨?_, ?_, ?_, ?_, ?_⟩
  ·intro y0 y1 y2
   unfold post_join_of69.l0
   repeat' first
   | (with_reducible exact ih0 _ _ _)
   | (with_reducible exact ih1 _ _ _ _)
   | (with_reducible exact ih2 _ _ _ _)
   | (with_reducible exact ih3 _ _ _ _ _)
   | (with_reducible exact ih4 _ _ _ _ _ _)
   | (with_reducible exact post_good.mono _ _)
   | (with_reducible exact LeO.refl _)
   | (with_reducible exact LeO.none _)
   | (with_reducible refine LeO.ite ?_ ?_)
   | (with_reducible refine LeO.bind ?_ (fun _ => ?_))
  ·intro y0 y1 y2 y3
   unfold post_join_of69.j1
   repeat' first
   | (with_reducible exact ih0 _ _ _)
   | (with_reducible exact ih1 _ _ _ _)
   | (with_reducible exact ih2 _ _ _ _)
   | (with_reducible exact ih3 _ _ _ _ _)
   | (with_reducible exact ih4 _ _ _ _ _ _)
   | (with_reducible exact post_good.mono _ _)
   | (with_reducible exact LeO.refl _)
   | (with_reducible exact LeO.none _)
   | (with_reducible refine LeO.ite ?_ ?_)
   | (with_reducible refine LeO.bind ?_ (fun _ => ?_))
  ·intro y0 y1 y2 y3
   unfold post_join_of69.j2
   repeat' first
   | (with_reducible exact ih0 _ _ _)
   | (with_reducible exact ih1 _ _ _ _)
   | (with_reducible exact ih2 _ _ _ _)
   | (with_reducible exact ih3 _ _ _ _ _)
   | (with_reducible exact ih4 _ _ _ _ _ _)
   | (with_reducible exact post_good.mono _ _)
   | (with_reducible exact LeO.refl _)
   | (with_reducible exact LeO.none _)
   | (with_reducible refine LeO.ite ?_ ?_)
   | (with_reducible refine LeO.bind ?_ (fun _ => ?_))
  ·intro y0 y1 y2 y3 y4
   unfold post_join_of69.j3
   repeat' first
   | (with_reducible exact ih0 _ _ _)
   | (with_reducible exact ih1 _ _ _ _)
   | (with_reducible exact ih2 _ _ _ _)
   | (with_reducible exact ih3 _ _ _ _ _)
   | (with_reducible exact ih4 _ _ _ _ _ _)
   | (with_reducible exact post_good.mono _ _)
   | (with_reducible exact LeO.refl _)
   | (with_reducible exact LeO.none _)
   | (with_reducible refine LeO.ite ?_ ?_)
   | (with_reducible refine LeO.bind ?_ (fun _ => ?_))
  ·intro y0 y1 y2 y3 y4 y5
   unfold post_join_of69.j4
   repeat' first
   | (with_reducible exact ih0 _ _ _)
   | (with_reducible exact ih1 _ _ _ _)
   | (with_reducible exact ih2 _ _ _ _)
   | (with_reducible exact ih3 _ _ _ _ _)
   | (with_reducible exact ih4 _ _ _ _ _ _)
   | (with_reducible exact post_good.mono _ _)
   | (with_reducible exact LeO.refl _)
   | (with_reducible exact LeO.none _)
   | (with_reducible refine LeO.ite ?_ ?_)
   | (with_reducible refine LeO.bind ?_ (fun _ => ?_))
theorem post_join_of69.mono : ∀ a0 a1 k, LeO (post_join_of69.f k a0 a1) (post_join_of69.f (k + 1) a0 a1) := by
 intro a0 a1 k
 obtain ⟨ih0, ih1, ih2, ih3, ih4⟩ := post_join_of69.mono_l k
 unfold post_join_of69.f
 repeat' first
   | (with_reducible exact ih0 _ _ _)
   | (with_reducible exact ih1 _ _ _ _)
   | (with_reducible exact ih2 _ _ _ _)
   | (with_reducible exact ih3 _ _ _ _ _)
   | (with_reducible exact ih4 _ _ _ _ _ _)
   | (with_reducible exact post_good.mono _ _)
   | (with_reducible exact LeO.refl _)
   | (with_reducible exact LeO.none _)
   | (with_reducible refine LeO.ite ?_ ?_)
   | (with_reducible refine LeO.bind ?_ (fun _ => ?_))
set_option maxHeartbeats 8000000 in
set_option maxRecDepth 100000 in
theorem post_join_of69.calls (k : Nat) (A0 : Option Addr) (c0 : Nat) (l0 : List Int) (A1 : Option Addr) (c1 : Nat) (l1 : List Int) (r : List Int) (w : World) (hr0 : Kd.C (Kd.int .i64) w A0 l0.length l0) (hc0 : l0.length ≤ c0) (hr1 : Kd.C (Kd.int .i64) w A1 l1.length l1) (hc1 : l1.length ≤ c1) (h : post_join_of69.f k l0 l1 = some r) :
  Calls Tryd.prog 67 #[.slice A0 l0.length c0, .slice A1 l1.length c1, .func (.func 69) #[] #[]] w fun e w' => ∃ v0_ : Value, e = .returned (v0_) ∧ Kd.R (Kd.int .i64) 3 w' w.heap.size (fun _ => True) v0_ r ∧ Below w.heap.size w w' := by
 have HR0 := Aside0.mk hr0
 have HC0 := Aside0.mk hc0
 clear hr0 hc0
 have HR1 := Aside0.mk hr1
 have HC1 := Aside0.mk hc1
 clear hr1 hc1
 have HB := Aside0.mk (Below.refl w.heap.size w)
 have H : ((post_good.f k l0).bind fun t231 => ((post_good.f k l1).bind fun t234 => (post_join_of69.l0 k t231 t234 ([] : List Int)))) = some r := h
 clear h
 replace H := Option.bind_eq_some_iff.mp H
 obtain ⟨t231, A30, H⟩ := H
 replace H : ((post_good.f k l1).bind fun t234 => (post_join_of69.l0 k t231 t234 ([] : List Int))) = some r := H
 have A3 := Aside0.mk A30
 clear A30
 replace H := Option.bind_eq_some_iff.mp H
 obtain ⟨t234, A40, H⟩ := H
 replace H : (post_join_of69.l0 k t231 t234 ([] : List Int)) = some r := H
 have A4 := Aside0.mk A40
 clear A40
 have H' := Aside0.mk H
 clear H
 go_enter Tryd.func67, Tryd.ntmps67
 go_wp2_with (first | (go_at_call 81; (with_reducible refine (post_good.calls k (fun k_ => k_ < w.heap.size) _ _ l0 t231 _ ?side1 A3.out).mono ?_); (case side1 => exact Kd.V_mk HC0.out (Kd.F_below (Kd.C_F (Kd.heap_int .i64) HR0.out) (by repeat (first | (with_reducible first | exact HB.out | apply below_alloc | apply pw_below_drewN | apply below_drew1) | exact HB.out)))); rintro e w5 ⟨v232, rfl, ho0, hb⟩; have n0_ := Aside0.mk (Kd.V_lower (Kd.V_mono (ok' := fun k_ => True) ho0 (fun k_ hk_ => trivial)) (below_size (by repeat (first | (with_reducible first | exact HB.out | apply below_alloc | apply pw_below_drewN | apply below_drew1) | exact HB.out)))); have n1_ := Aside0.mk (below_step (by repeat (first | (with_reducible first | exact HB.out | apply below_alloc | apply pw_below_drewN | apply below_drew1) | exact HB.out)) hb); clear HB; have HO233 := n0_; have HB := n1_; clear n0_ n1_; (try clear hb); (try clear hb2); (try clear hk); (try clear hi); (try clear ho0)) | (go_at_call 81; (with_reducible refine (post_good.calls k (fun k_ => k_ < w.heap.size) _ _ l1 t234 _ ?side1 A4.out).mono ?_); (case side1 => exact Kd.V_mk HC1.out (Kd.F_below (Kd.C_F (Kd.heap_int .i64) HR1.out) (by repeat (first | (with_reducible first | exact HB.out | apply below_alloc | apply pw_below_drewN | apply below_drew1) | exact HB.out)))); rintro e w6 ⟨v235, rfl, ho0, hb⟩; have n0_ := Aside0.mk (Kd.V_below (by (with_reducible repeat (first | apply Kd.V_alloc | apply Kd.V_drewN | apply Kd.V_drew)); exact HO233.out) hb); have n1_ := Aside0.mk (Kd.V_lower (Kd.V_mono (ok' := fun k_ => True) ho0 (fun k_ hk_ => trivial)) (below_size (by repeat (first | (with_reducible first | exact HB.out | apply below_alloc | apply pw_below_drewN | apply below_drew1) | exact HB.out)))); have n2_ := Aside0.mk (below_step (by repeat (first | (with_reducible first | exact HB.out | apply below_alloc | apply pw_below_drewN | apply below_drew1) | exact HB.out)) hb); clear HO233; clear HB; have HO233 := n0_; have HO236 := n1_; have HB := n2_; clear n0_ n1_ n2_; (try clear hb); (try clear hb2); (try clear hk); (try clear hi); (try clear ho0)))
 repeat (go_quiet (first | (go_at_call 81; (with_reducible refine (post_good.calls k (fun k_ => k_ < w.heap.size) _ _ l0 t231 _ ?side1 A3.out).mono ?_); (case side1 => exact Kd.V_mk HC0.out (Kd.F_below (Kd.C_F (Kd.heap_int .i64) HR0.out) (by repeat (first | (with_reducible first | exact HB.out | apply below_alloc | apply pw_below_drewN | apply below_drew1) | exact HB.out)))); rintro e w5 ⟨v232, rfl, ho0, hb⟩; have n0_ := Aside0.mk (Kd.V_lower (Kd.V_mono (ok' := fun k_ => True) ho0 (fun k_ hk_ => trivial)) (below_size (by repeat (first | (with_reducible first | exact HB.out | apply below_alloc | apply pw_below_drewN | apply below_drew1) | exact HB.out)))); have n1_ := Aside0.mk (below_step (by repeat (first | (with_reducible first | exact HB.out | apply below_alloc | apply pw_below_drewN | apply below_drew1) | exact HB.out)) hb); clear HB; have HO233 := n0_; have HB := n1_; clear n0_ n1_; (try clear hb); (try clear hb2); (try clear hk); (try clear hi); (try clear ho0)) | (go_at_call 81; (with_reducible refine (post_good.calls k (fun k_ => k_ < w.heap.size) _ _ l1 t234 _ ?side1 A4.out).mono ?_); (case side1 => exact Kd.V_mk HC1.out (Kd.F_below (Kd.C_F (Kd.heap_int .i64) HR1.out) (by repeat (first | (with_reducible first | exact HB.out | apply below_alloc | apply pw_below_drewN | apply below_drew1) | exact HB.out)))); rintro e w6 ⟨v235, rfl, ho0, hb⟩; have n0_ := Aside0.mk (Kd.V_below (by (with_reducible repeat (first | apply Kd.V_alloc | apply Kd.V_drewN | apply Kd.V_drew)); exact HO233.out) hb); have n1_ := Aside0.mk (Kd.V_lower (Kd.V_mono (ok' := fun k_ => True) ho0 (fun k_ hk_ => trivial)) (below_size (by repeat (first | (with_reducible first | exact HB.out | apply below_alloc | apply pw_below_drewN | apply below_drew1) | exact HB.out)))); have n2_ := Aside0.mk (below_step (by repeat (first | (with_reducible first | exact HB.out | apply below_alloc | apply pw_below_drewN | apply below_drew1) | exact HB.out)) hb); clear HO233; clear HB; have HO233 := n0_; have HO236 := n1_; have HB := n2_; clear n0_ n1_ n2_; (try clear hb); (try clear hb2); (try clear hk); (try clear hi); (try clear ho0))); try go_wp2_with (first | (go_at_call 81; (with_reducible refine (post_good.calls k (fun k_ => k_ < w.heap.size) _ _ l0 t231 _ ?side1 A3.out).mono ?_); (case side1 => exact Kd.V_mk HC0.out (Kd.F_below (Kd.C_F (Kd.heap_int .i64) HR0.out) (by repeat (first | (with_reducible first | exact HB.out | apply below_alloc | apply pw_below_drewN | apply below_drew1) | exact HB.out)))); rintro e w5 ⟨v232, rfl, ho0, hb⟩; have n0_ := Aside0.mk (Kd.V_lower (Kd.V_mono (ok' := fun k_ => True) ho0 (fun k_ hk_ => trivial)) (below_size (by repeat (first | (with_reducible first | exact HB.out | apply below_alloc | apply pw_below_drewN | apply below_drew1) | exact HB.out)))); have n1_ := Aside0.mk (below_step (by repeat (first | (with_reducible first | exact HB.out | apply below_alloc | apply pw_below_drewN | apply below_drew1) | exact HB.out)) hb); clear HB; have HO233 := n0_; have HB := n1_; clear n0_ n1_; (try clear hb); (try clear hb2); (try clear hk); (try clear hi); (try clear ho0)) | (go_at_call 81; (with_reducible refine (post_good.calls k (fun k_ => k_ < w.heap.size) _ _ l1 t234 _ ?side1 A4.out).mono ?_); (case side1 => exact Kd.V_mk HC1.out (Kd.F_below (Kd.C_F (Kd.heap_int .i64) HR1.out) (by repeat (first | (with_reducible first | exact HB.out | apply below_alloc | apply pw_below_drewN | apply below_drew1) | exact HB.out)))); rintro e w6 ⟨v235, rfl, ho0, hb⟩; have n0_ := Aside0.mk (Kd.V_below (by (with_reducible repeat (first | apply Kd.V_alloc | apply Kd.V_drewN | apply Kd.V_drew)); exact HO233.out) hb); have n1_ := Aside0.mk (Kd.V_lower (Kd.V_mono (ok' := fun k_ => True) ho0 (fun k_ hk_ => trivial)) (below_size (by repeat (first | (with_reducible first | exact HB.out | apply below_alloc | apply pw_below_drewN | apply below_drew1) | exact HB.out)))); have n2_ := Aside0.mk (below_step (by repeat (first | (with_reducible first | exact HB.out | apply below_alloc | apply pw_below_drewN | apply below_drew1) | exact HB.out)) hb); clear HO233; clear HB; have HO233 := n0_; have HO236 := n1_; have HB := n2_; clear n0_ n1_ n2_; (try clear hb); (try clear hb2); (try clear hk); (try clear hi); (try clear ho0))))
 go_loopg [0, 1, 7] k (fun kq v0 v1 v7 w' => ∃ (x0_1 : List Int) (x1_1 : List Int) (x7_1 : List Int), Aside0 (post_join_of69.l0 kq x0_1 x1_1 x7_1 = some r) ∧ Aside0 (kq ≤ k) ∧ Aside0 (Kd.V (Kd.int .i64) 3 w' w.heap.size (fun k_ => some k_ ≠ (v7 : Value).ownBlock) v0 x0_1) ∧ Aside0 (Kd.V (Kd.int .i64) 3 w' w.heap.size (fun k_ => some k_ ≠ (v7 : Value).ownBlock) v1 x1_1) ∧ Aside0 (Kd.R (Kd.int .i64) 3 w' w.heap.size (fun _ => True) v7 x7_1) ∧ Aside0 (Below w.heap.size w w'))
 case atStart => exact ⟨(t231), (t234), (([] : List Int)), H', ⟨Nat.le_refl _⟩, ⟨by (with_reducible repeat (first | apply Kd.V_alloc | apply Kd.V_drewN | apply Kd.V_drew)); exact Kd.V_mono HO233.out (fun _ hk => (by simp [Value.ownBlock]))⟩, ⟨by (with_reducible repeat (first | apply Kd.V_alloc | apply Kd.V_drewN | apply Kd.V_drew)); exact Kd.V_mono HO236.out (fun _ hk => (by simp [Value.ownBlock]))⟩, ⟨by first | exact Kd.R_nil _ _ _ _ _ | exact Kd.N_nil _ _ _ _ _ | exact Kd.V_nil _ _ _ _ _ | exact Kd.Q_nil _ _ _ _ _ | exact Kd.S_nil _ _ _ _ _⟩, ⟨by repeat (first | (with_reducible first | exact HB.out | apply below_alloc | apply pw_below_drewN | apply below_drew1) | exact HB.out)⟩⟩
 case round =>
  clear H'
  try clear c1
  try clear p2
  obtain ⟨x0_1, x1_1, x7_1, HA, HK1, HO_0, HO_1, HO_7, HB⟩ := hrel
  cases gk with
  | zero => exact absurd HA.out (by simp [post_join_of69.l0])
  | succ k1 =>
   have H := HA.out
   clear HA
   simp only [post_join_of69.l0] at H
   have HC7 := Aside0.mk H
   clear H
   go_upto_region 3 with (fail)
   repeat (go_quiet (fail); go_upto_region 3 with (fail))
   go_cut [22] (fun v22 wc => ∃ (kq : Nat) (x22_6 : Bool), v22 = .bool x22_6 ∧ Aside0 (post_join_of69.j1 kq x0_1 x1_1 x7_1 x22_6 = some r) ∧ Aside0 (kq ≤ k1) ∧ Aside0 (Kd.V (Kd.int .i64) 3 wc w.heap.size (fun k_ => some k_ ≠ (u7 : Value).ownBlock) u0 x0_1) ∧ Aside0 (Kd.V (Kd.int .i64) 3 wc w.heap.size (fun k_ => some k_ ≠ (u7 : Value).ownBlock) u1 x1_1) ∧ Aside0 (Kd.R (Kd.int .i64) 3 wc w.heap.size (fun _ => True) u7 x7_1) ∧ Aside0 (Below w.heap.size w wc))
   case first =>
    have H := HC7.out
    clear HC7
    by_cases c8 : (x0_1.length : Int) > 0
    ·rw [if_pos c8] at H
     have c8b0 : decide (0 < (x0_1.length : Int)) = true := decide_eq_true c8
     have c8b1 : decide (0 < x0_1.length) = true := decide_eq_true (by omega)
     clear c8
     (first | rw [c8b0] | (simp only [i64_w, i32_w]; rw [c8b0]) | skip)
     have H' := Aside0.mk H
     clear H
     obtain ⟨Ao9, co9, eo9⟩ := Kd.V_slice HO_0.out
     subst eo9
     go_wp2
     repeat (go_quiet (fail); try go_wp2)
     go_meet
     case rel => exact ⟨_, (true), (by first | rfl | (simp; done) | (simp [*]; done)), H', ⟨by have := HK1.out; first | omega | exact Nat.le_refl _⟩, ⟨by (with_reducible repeat (first | apply Kd.V_alloc | apply Kd.V_drewN | apply Kd.V_drew)); exact HO_0.out⟩, ⟨by (with_reducible repeat (first | apply Kd.V_alloc | apply Kd.V_drewN | apply Kd.V_drew)); exact HO_1.out⟩, ⟨by (with_reducible repeat (first | apply Kd.R_alloc | apply Kd.R_drewN | apply Kd.R_drew)); exact HO_7.out⟩, ⟨by repeat (first | (with_reducible first | exact HB.out | apply below_alloc | apply pw_below_drewN | apply below_drew1) | exact HB.out)⟩⟩
    ·rw [if_neg c8] at H
     have c8b0 : decide (0 < (x0_1.length : Int)) = false := decide_eq_false c8
     have c8b1 : decide (0 < x0_1.length) = false := decide_eq_false (by omega)
     clear c8
     (first | rw [c8b0] | (simp only [i64_w, i32_w]; rw [c8b0]) | skip)
     have H' := Aside0.mk H
     clear H
     obtain ⟨Ao10, co10, eo10⟩ := Kd.V_slice HO_0.out
     subst eo10
     obtain ⟨Ao11, co11, eo11⟩ := Kd.V_slice HO_1.out
     subst eo11
     go_wp2
     repeat (go_quiet (fail); try go_wp2)
     go_meet
     case rel => exact ⟨_, (decide ((x1_1.length : Int) > 0)), (by first | rfl | (simp; done) | (simp [*]; done)), H', ⟨by have := HK1.out; first | omega | exact Nat.le_refl _⟩, ⟨by (with_reducible repeat (first | apply Kd.V_alloc | apply Kd.V_drewN | apply Kd.V_drew)); exact HO_0.out⟩, ⟨by (with_reducible repeat (first | apply Kd.V_alloc | apply Kd.V_drewN | apply Kd.V_drew)); exact HO_1.out⟩, ⟨by (with_reducible repeat (first | apply Kd.R_alloc | apply Kd.R_drewN | apply Kd.R_drew)); exact HO_7.out⟩, ⟨by repeat (first | (with_reducible first | exact HB.out | apply below_alloc | apply pw_below_drewN | apply below_drew1) | exact HB.out)⟩⟩
   case rest =>
    clear HC7
    try clear c1
    try clear p2
    try clear c8
    try clear c8b0
    try clear c8b1
    try clear c10
    try clear p2
    obtain ⟨kq, x22_6, rfl, HA, HJ6, HO_0, HO_1, HO_7, HB⟩ := hcut
    cases kq with
    | zero => exact absurd HA.out (by simp [post_join_of69.j1])
    | succ kj6 =>
     have H := HA.out
     clear HA
     simp only [post_join_of69.j1] at H
     by_cases c12 : x22_6 = true
     ·subst c12
      have H1 : (if (x0_1.length : Int) > 0 then (if (x1_1.length : Int) = 0 then (post_join_of69.j2 kj6 x0_1 x1_1 x7_1 true) else (if 0 < (x0_1.length : Int) then (if 0 < (x1_1.length : Int) then (post_join_of69.j2 kj6 x0_1 x1_1 x7_1 (decide ((rd x0_1 0) ≤ (rd x1_1 0)))) else (none)) else (none))) else (post_join_of69.j2 kj6 x0_1 x1_1 x7_1 false)) = some r := by rw [if_pos rfl] at H; exact H
      clear H
      have H := H1
      clear H1
      have HC13 := Aside0.mk H
      clear H
      go_upto_region 4 with (fail)
      repeat (go_quiet (fail); go_upto_region 4 with (fail))
      go_cut [8] (fun v8 wc => ∃ (kq : Nat) (x8_12 : Bool), v8 = .bool x8_12 ∧ Aside0 (post_join_of69.j2 kq x0_1 x1_1 x7_1 x8_12 = some r) ∧ Aside0 (kq ≤ kj6) ∧ Aside0 (Kd.V (Kd.int .i64) 3 wc w.heap.size (fun k_ => some k_ ≠ (u7 : Value).ownBlock) u0 x0_1) ∧ Aside0 (Kd.V (Kd.int .i64) 3 wc w.heap.size (fun k_ => some k_ ≠ (u7 : Value).ownBlock) u1 x1_1) ∧ Aside0 (Kd.R (Kd.int .i64) 3 wc w.heap.size (fun _ => True) u7 x7_1) ∧ Aside0 (Below w.heap.size w wc))
      case first =>
       have H := HC13.out
       clear HC13
       by_cases c14 : (x0_1.length : Int) > 0
       ·rw [if_pos c14] at H
        have c14b0 : decide (0 < (x0_1.length : Int)) = true := decide_eq_true c14
        have c14b1 : decide (0 < x0_1.length) = true := decide_eq_true (by omega)
        clear c14
        (first | rw [c14b0] | (simp only [i64_w, i32_w]; rw [c14b0]) | skip)
        by_cases c15 : (x1_1.length : Int) = 0
        ·rw [if_pos c15] at H
         have c15b0 : ((x1_1.length : Int) == 0) = true := beq_iff_eq.mpr c15
         have c15b1 : ((x1_1.length : Int) != 0) = false := bne_eq_false_iff_eq.mpr c15
         clear c15
         have H' := Aside0.mk H
         clear H
         obtain ⟨Ao16, co16, eo16⟩ := Kd.V_slice HO_0.out
         subst eo16
         obtain ⟨Ao17, co17, eo17⟩ := Kd.V_slice HO_1.out
         subst eo17
         go_wp2
         repeat (go_quiet (fail); try go_wp2)
         go_meet
         case rel => exact ⟨_, (true), (by first | rfl | (simp; done) | (simp [*]; done)), H', ⟨by have := HK1.out; have := HJ6.out; first | omega | exact Nat.le_refl _⟩, ⟨by (with_reducible repeat (first | apply Kd.V_alloc | apply Kd.V_drewN | apply Kd.V_drew)); exact HO_0.out⟩, ⟨by (with_reducible repeat (first | apply Kd.V_alloc | apply Kd.V_drewN | apply Kd.V_drew)); exact HO_1.out⟩, ⟨by (with_reducible repeat (first | apply Kd.R_alloc | apply Kd.R_drewN | apply Kd.R_drew)); exact HO_7.out⟩, ⟨by repeat (first | (with_reducible first | exact HB.out | apply below_alloc | apply pw_below_drewN | apply below_drew1) | exact HB.out)⟩⟩
        ·rw [if_neg c15] at H
         have c15b0 : ((x1_1.length : Int) == 0) = false := beq_eq_false_iff_ne.mpr c15
         have c15b1 : ((x1_1.length : Int) != 0) = true := bne_iff_ne.mpr c15
         have c15b2 : ¬ (x1_1 = []) := fun h_ => c15 (by rw [h_]; rfl)
         by_cases c18 : 0 < (x0_1.length : Int)
         ·rw [if_pos c18] at H
          have c18b0 : decide (0 < (x0_1.length : Int)) = true := decide_eq_true c18
          have c18b1 : decide (0 < x0_1.length) = true := decide_eq_true (by omega)
          clear c18
          by_cases c19 : 0 < (x1_1.length : Int)
          ·rw [if_pos c19] at H
           have c19b0 : decide (0 < (x1_1.length : Int)) = true := decide_eq_true c19
           have c19b1 : decide (0 < x1_1.length) = true := decide_eq_true (by omega)
           clear c19
           have H' := Aside0.mk H
           clear H
           obtain ⟨Ao20, co20, eo20⟩ := Kd.V_slice HO_0.out
           subst eo20
           obtain ⟨Ao21, co21, eo21⟩ := Kd.V_slice HO_1.out
           subst eo21
           have p237 : 0 ≤ (0 : Int) := (by omega)
           have q237 : 0 < (x0_1.length : Int) := of_decide_eq_true (by first | (with_reducible assumption) | assumption)
           obtain ⟨ad237, e237, hx237_0⟩ := Kd.at_int (Kd.V_reads' HO_0.out).2.2 0 p237 q237
           cases e237
           have qi237 : (0 < x0_1.length) = True := eq_true (by omega)
           (try rw [show ((0 : Int)).toNat = 0 from rfl] at hx237_0)
           (try rw [Addr.add_zero'] at hx237_0)
           replace p237 := eq_true p237
           replace q237 := eq_true q237
           have p238 : 0 ≤ (0 : Int) := (by omega)
           have q238 : 0 < (x1_1.length : Int) := of_decide_eq_true (by first | (with_reducible assumption) | assumption)
           obtain ⟨ad238, e238, hx238_0⟩ := Kd.at_int (Kd.V_reads' HO_1.out).2.2 0 p238 q238
           cases e238
           have qi238 : (0 < x1_1.length) = True := eq_true (by omega)
           (try rw [show ((0 : Int)).toNat = 0 from rfl] at hx238_0)
           (try rw [Addr.add_zero'] at hx238_0)
           replace p238 := eq_true p238
           replace q238 := eq_true q238
           go_wp2
           repeat (go_quiet (fail); try go_wp2)
           go_meet
           case rel => exact ⟨_, (decide ((rd x0_1 0) ≤ (rd x1_1 0))), (by first | rfl | (simp; done) | (simp [*]; done)), H', ⟨by have := HK1.out; have := HJ6.out; first | omega | exact Nat.le_refl _⟩, ⟨by (with_reducible repeat (first | apply Kd.V_alloc | apply Kd.V_drewN | apply Kd.V_drew)); exact HO_0.out⟩, ⟨by (with_reducible repeat (first | apply Kd.V_alloc | apply Kd.V_drewN | apply Kd.V_drew)); exact HO_1.out⟩, ⟨by (with_reducible repeat (first | apply Kd.R_alloc | apply Kd.R_drewN | apply Kd.R_drew)); exact HO_7.out⟩, ⟨by repeat (first | (with_reducible first | exact HB.out | apply below_alloc | apply pw_below_drewN | apply below_drew1) | exact HB.out)⟩⟩
          ·rw [if_neg c19] at H
           exact absurd H (by simp)
         ·rw [if_neg c18] at H
          exact absurd H (by simp)
       ·rw [if_neg c14] at H
        have c14b0 : decide (0 < (x0_1.length : Int)) = false := decide_eq_false c14
        have c14b1 : decide (0 < x0_1.length) = false := decide_eq_false (by omega)
        clear c14
        (first | rw [c14b0] | (simp only [i64_w, i32_w]; rw [c14b0]) | skip)
        have H' := Aside0.mk H
        clear H
        obtain ⟨Ao22, co22, eo22⟩ := Kd.V_slice HO_0.out
        subst eo22
        go_wp2
        repeat (go_quiet (fail); try go_wp2)
        go_meet
        case rel => exact ⟨_, (false), (by first | rfl | (simp; done) | (simp [*]; done)), H', ⟨by have := HK1.out; have := HJ6.out; first | omega | exact Nat.le_refl _⟩, ⟨by (with_reducible repeat (first | apply Kd.V_alloc | apply Kd.V_drewN | apply Kd.V_drew)); exact HO_0.out⟩, ⟨by (with_reducible repeat (first | apply Kd.V_alloc | apply Kd.V_drewN | apply Kd.V_drew)); exact HO_1.out⟩, ⟨by (with_reducible repeat (first | apply Kd.R_alloc | apply Kd.R_drewN | apply Kd.R_drew)); exact HO_7.out⟩, ⟨by repeat (first | (with_reducible first | exact HB.out | apply below_alloc | apply pw_below_drewN | apply below_drew1) | exact HB.out)⟩⟩
      case rest =>
       clear HC13
       try clear c1
       try clear p2
       try clear q2
       try clear hx2
       try clear qi2
       try clear c8
       try clear c8b0
       try clear c8b1
       try clear c10
       try clear c12
       try clear c14
       try clear c14b0
       try clear c14b1
       try clear c15
       try clear c15b0
       try clear c15b1
       try clear c15b2
       try clear c18
       try clear c18b0
       try clear c18b1
       try clear c19
       try clear c19b0
       try clear c19b1
       try clear hx237_0
       try clear hx238_0
       try clear p2
       try clear p237
       try clear p238
       try clear q237
       try clear q238
       obtain ⟨kq, x8_12, rfl, HA, HJ12, HO_0, HO_1, HO_7, HB⟩ := hcut
       cases kq with
       | zero => exact absurd HA.out (by simp [post_join_of69.j2])
       | succ kj12 =>
        have H := HA.out
        clear HA
        simp only [post_join_of69.j2] at H
        have HC23 := Aside0.mk H
        clear H
        go_upto_region 5 with (fail)
        repeat (go_quiet (fail); go_upto_region 5 with (fail))
        go_cut [9] (fun v9 wc => ∃ (kq : Nat) (x9_22 : Bool), v9 = .bool x9_22 ∧ Aside0 (post_join_of69.j3 kq x0_1 x1_1 x7_1 x8_12 x9_22 = some r) ∧ Aside0 (kq ≤ kj12) ∧ Aside0 (Kd.V (Kd.int .i64) 3 wc w.heap.size (fun k_ => some k_ ≠ (u7 : Value).ownBlock) u0 x0_1) ∧ Aside0 (Kd.V (Kd.int .i64) 3 wc w.heap.size (fun k_ => some k_ ≠ (u7 : Value).ownBlock) u1 x1_1) ∧ Aside0 (Kd.R (Kd.int .i64) 3 wc w.heap.size (fun _ => True) u7 x7_1) ∧ Aside0 (Below w.heap.size w wc))
        case first =>
         have H := HC23.out
         clear HC23
         by_cases c24 : (x1_1.length : Int) > 0
         ·rw [if_pos c24] at H
          have c24b0 : decide (0 < (x1_1.length : Int)) = true := decide_eq_true c24
          have c24b1 : decide (0 < x1_1.length) = true := decide_eq_true (by omega)
          clear c24
          (first | rw [c24b0] | (simp only [i64_w, i32_w]; rw [c24b0]) | skip)
          by_cases c25 : (x0_1.length : Int) = 0
          ·rw [if_pos c25] at H
           have c25b0 : ((x0_1.length : Int) == 0) = true := beq_iff_eq.mpr c25
           have c25b1 : ((x0_1.length : Int) != 0) = false := bne_eq_false_iff_eq.mpr c25
           clear c25
           have H' := Aside0.mk H
           clear H
           obtain ⟨Ao26, co26, eo26⟩ := Kd.V_slice HO_1.out
           subst eo26
           obtain ⟨Ao27, co27, eo27⟩ := Kd.V_slice HO_0.out
           subst eo27
           go_wp2
           repeat (go_quiet (fail); try go_wp2)
           go_meet
           case rel => exact ⟨_, (true), (by first | rfl | (simp; done) | (simp [*]; done)), H', ⟨by have := HK1.out; have := HJ6.out; have := HJ12.out; first | omega | exact Nat.le_refl _⟩, ⟨by (with_reducible repeat (first | apply Kd.V_alloc | apply Kd.V_drewN | apply Kd.V_drew)); exact HO_0.out⟩, ⟨by (with_reducible repeat (first | apply Kd.V_alloc | apply Kd.V_drewN | apply Kd.V_drew)); exact HO_1.out⟩, ⟨by (with_reducible repeat (first | apply Kd.R_alloc | apply Kd.R_drewN | apply Kd.R_drew)); exact HO_7.out⟩, ⟨by repeat (first | (with_reducible first | exact HB.out | apply below_alloc | apply pw_below_drewN | apply below_drew1) | exact HB.out)⟩⟩
          ·rw [if_neg c25] at H
           have c25b0 : ((x0_1.length : Int) == 0) = false := beq_eq_false_iff_ne.mpr c25
           have c25b1 : ((x0_1.length : Int) != 0) = true := bne_iff_ne.mpr c25
           have c25b2 : ¬ (x0_1 = []) := fun h_ => c25 (by rw [h_]; rfl)
           by_cases c28 : 0 < (x1_1.length : Int)
           ·rw [if_pos c28] at H
            have c28b0 : decide (0 < (x1_1.length : Int)) = true := decide_eq_true c28
            have c28b1 : decide (0 < x1_1.length) = true := decide_eq_true (by omega)
            clear c28
            by_cases c29 : 0 < (x0_1.length : Int)
            ·rw [if_pos c29] at H
             have c29b0 : decide (0 < (x0_1.length : Int)) = true := decide_eq_true c29
             have c29b1 : decide (0 < x0_1.length) = true := decide_eq_true (by omega)
             clear c29
             have H' := Aside0.mk H
             clear H
             obtain ⟨Ao30, co30, eo30⟩ := Kd.V_slice HO_1.out
             subst eo30
             obtain ⟨Ao31, co31, eo31⟩ := Kd.V_slice HO_0.out
             subst eo31
             have p239 : 0 ≤ (0 : Int) := (by omega)
             have q239 : 0 < (x1_1.length : Int) := of_decide_eq_true (by first | (with_reducible assumption) | assumption)
             obtain ⟨ad239, e239, hx239_0⟩ := Kd.at_int (Kd.V_reads' HO_1.out).2.2 0 p239 q239
             cases e239
             have qi239 : (0 < x1_1.length) = True := eq_true (by omega)
             (try rw [show ((0 : Int)).toNat = 0 from rfl] at hx239_0)
             (try rw [Addr.add_zero'] at hx239_0)
             replace p239 := eq_true p239
             replace q239 := eq_true q239
             have p240 : 0 ≤ (0 : Int) := (by omega)
             have q240 : 0 < (x0_1.length : Int) := of_decide_eq_true (by first | (with_reducible assumption) | assumption)
             obtain ⟨ad240, e240, hx240_0⟩ := Kd.at_int (Kd.V_reads' HO_0.out).2.2 0 p240 q240
             cases e240
             have qi240 : (0 < x0_1.length) = True := eq_true (by omega)
             (try rw [show ((0 : Int)).toNat = 0 from rfl] at hx240_0)
             (try rw [Addr.add_zero'] at hx240_0)
             replace p240 := eq_true p240
             replace q240 := eq_true q240
             go_wp2
             repeat (go_quiet (fail); try go_wp2)
             go_meet
             case rel => exact ⟨_, (decide ((rd x1_1 0) ≤ (rd x0_1 0))), (by first | rfl | (simp; done) | (simp [*]; done)), H', ⟨by have := HK1.out; have := HJ6.out; have := HJ12.out; first | omega | exact Nat.le_refl _⟩, ⟨by (with_reducible repeat (first | apply Kd.V_alloc | apply Kd.V_drewN | apply Kd.V_drew)); exact HO_0.out⟩, ⟨by (with_reducible repeat (first | apply Kd.V_alloc | apply Kd.V_drewN | apply Kd.V_drew)); exact HO_1.out⟩, ⟨by (with_reducible repeat (first | apply Kd.R_alloc | apply Kd.R_drewN | apply Kd.R_drew)); exact HO_7.out⟩, ⟨by repeat (first | (with_reducible first | exact HB.out | apply below_alloc | apply pw_below_drewN | apply below_drew1) | exact HB.out)⟩⟩
            ·rw [if_neg c29] at H
             exact absurd H (by simp)
           ·rw [if_neg c28] at H
            exact absurd H (by simp)
         ·rw [if_neg c24] at H
          have c24b0 : decide (0 < (x1_1.length : Int)) = false := decide_eq_false c24
          have c24b1 : decide (0 < x1_1.length) = false := decide_eq_false (by omega)
          clear c24
          (first | rw [c24b0] | (simp only [i64_w, i32_w]; rw [c24b0]) | skip)
          have H' := Aside0.mk H
          clear H
          obtain ⟨Ao32, co32, eo32⟩ := Kd.V_slice HO_1.out
          subst eo32
          go_wp2
          repeat (go_quiet (fail); try go_wp2)
          go_meet
          case rel => exact ⟨_, (false), (by first | rfl | (simp; done) | (simp [*]; done)), H', ⟨by have := HK1.out; have := HJ6.out; have := HJ12.out; first | omega | exact Nat.le_refl _⟩, ⟨by (with_reducible repeat (first | apply Kd.V_alloc | apply Kd.V_drewN | apply Kd.V_drew)); exact HO_0.out⟩, ⟨by (with_reducible repeat (first | apply Kd.V_alloc | apply Kd.V_drewN | apply Kd.V_drew)); exact HO_1.out⟩, ⟨by (with_reducible repeat (first | apply Kd.R_alloc | apply Kd.R_drewN | apply Kd.R_drew)); exact HO_7.out⟩, ⟨by repeat (first | (with_reducible first | exact HB.out | apply below_alloc | apply pw_below_drewN | apply below_drew1) | exact HB.out)⟩⟩
        case rest =>
         clear HC23
         try clear c1
         try clear c2
         try clear p2
         try clear q2
         try clear hx2
         try clear qi2
         try clear c8
         try clear c8b0
         try clear c8b1
         try clear c10
         try clear c12
         try clear c14
         try clear c14b0
         try clear c14b1
         try clear c15
         try clear c15b0
         try clear c15b1
         try clear c15b2
         try clear c18
         try clear c18b0
         try clear c18b1
         try clear c19
         try clear c19b0
         try clear c19b1
         try clear p23
         try clear q23
         try clear hx23
         try clear qi23
         try clear c24
         try clear c24b0
         try clear c24b1
         try clear p24
         try clear q24
         try clear hx24
         try clear qi24
         try clear c25
         try clear c25b0
         try clear c25b1
         try clear c25b2
         try clear c28
         try clear c28b0
         try clear c28b1
         try clear c29
         try clear c29b0
         try clear c29b1
         try clear hx237_0
         try clear hx238_0
         try clear hx239_0
         try clear hx240_0
         try clear p2
         try clear p237
         try clear p238
         try clear p239
         try clear p240
         try clear q2
         try clear q237
         try clear q238
         try clear q239
         try clear q240
         obtain ⟨kq, x9_22, rfl, HA, HJ22, HO_0, HO_1, HO_7, HB⟩ := hcut
         cases kq with
         | zero => exact absurd HA.out (by simp [post_join_of69.j3])
         | succ kj22 =>
          have H := HA.out
          clear HA
          simp only [post_join_of69.j3] at H
          have HC33 := Aside0.mk H
          clear H
          go_upto_if 57 with (fail)
          repeat (go_quiet (fail); go_upto_if 57 with (fail))
          go_cut [0, 10] (fun v0 v10 wc => ∃ (kq : Nat) (x0_32 : List Int) (x10_32 : Int), v10 = .int .i64 x10_32 ∧ Aside0 (post_join_of69.j4 kq x0_32 x1_1 x7_1 x8_12 x9_22 x10_32 = some r) ∧ Aside0 (kq ≤ kj22) ∧ Aside0 (Kd.V (Kd.int .i64) 3 wc w.heap.size (fun k_ => some k_ ≠ (u7 : Value).ownBlock) v0 x0_32) ∧ Aside0 (Kd.V (Kd.int .i64) 3 wc w.heap.size (fun k_ => some k_ ≠ (u7 : Value).ownBlock) u1 x1_1) ∧ Aside0 (Kd.R (Kd.int .i64) 3 wc w.heap.size (fun _ => True) u7 x7_1) ∧ Aside0 (Below w.heap.size w wc))
          case first =>
           have H := HC33.out
           clear HC33
           by_cases c34 : x8_12 = true
           ·subst c34
            have H1 : (if 0 < (x0_1.length : Int) then (if 1 ≤ (x0_1.length : Int) then (post_join_of69.j4 kj22 (x0_1.drop 1) x1_1 x7_1 true x9_22 (rd x0_1 0)) else (none)) else (none)) = some r := by rw [if_pos rfl] at H; exact H
            clear H
            have H := H1
            clear H1
            by_cases c35 : 0 < (x0_1.length : Int)
            ·rw [if_pos c35] at H
             have c35b0 : decide (0 < (x0_1.length : Int)) = true := decide_eq_true c35
             have c35b1 : decide (0 < x0_1.length) = true := decide_eq_true (by omega)
             clear c35
             (first | rw [c35b0] | (simp only [i64_w, i32_w]; rw [c35b0]) | skip)
             by_cases c36 : 1 ≤ (x0_1.length : Int)
             ·rw [if_pos c36] at H
              have c36b0 := eq_true c36
              have c36b1 : decide (1 ≤ (x0_1.length : Int)) = true := decide_eq_true c36
              clear c36
              obtain ⟨y242, hy242⟩ : ∃ y_ : List Int, y_ = (x0_1.drop 1) := ⟨_, rfl⟩
              replace H : (post_join_of69.j4 kj22 y242 x1_1 x7_1 true x9_22 (rd x0_1 0)) = some r := by first | (rw [hy242]; with_reducible exact H) | (have H2_ := (Option.bind_some _ _).symm.trans H; rw [hy242]; with_reducible exact H2_) | (have H2_ := (Option.bind_some _ _).symm.trans H; with_reducible exact H2_) | with_reducible exact H | (rw [hy242]; exact H) | exact H
              have Ny242 := Aside0.mk hy242
              clear hy242
              have H' := Aside0.mk H
              clear H
              obtain ⟨Ao37, co37, eo37⟩ := Kd.V_slice HO_0.out
              subst eo37
              have p241 : 0 ≤ (0 : Int) := (by omega)
              have q241 : 0 < (x0_1.length : Int) := of_decide_eq_true (by first | (with_reducible assumption) | assumption)
              obtain ⟨ad241, e241, hx241_0⟩ := Kd.at_int (Kd.V_reads' HO_0.out).2.2 0 p241 q241
              cases e241
              have qi241 : (0 < x0_1.length) = True := eq_true (by omega)
              (try rw [show ((0 : Int)).toNat = 0 from rfl] at hx241_0)
              (try rw [Addr.add_zero'] at hx241_0)
              replace p241 := eq_true p241
              replace q241 := eq_true q241
              have q38 : (1 : Int) ≤ ((x0_1.length : Int) : Int) := of_decide_eq_true (by first | (with_reducible assumption) | assumption)
              obtain ⟨i038, hi038, _, hsz38, _⟩ := info_parts info3
              have hroom38 : x0_1.length ≤ co37 := (Kd.V_reads' HO_0.out).2.1
              have hC38 : Kd.F (Kd.int .i64) _ _ (some ad241) x0_1.length x0_1 := (Kd.V_at (base := w.heap.size) HO_0.out).2.2
              have hcut38 := cut_from (P := Tryd.prog) 54 3 .i64 Tryd.underlying54 hi038 1 hsz38 (some ad241) x0_1.length co37 1 (by omega) q38
              have hr38 := Kd.F_cut (m := (1 : Int).toNat) (c := co37) hC38 (by omega) hroom38
              obtain ⟨A38, hA38⟩ : ∃ A1, A1 = (if co37 = (1 : Int).toNat then (some ad241) else ((some ad241) : Option Addr).map (·.add ((1 : Int).toNat * 1))) := ⟨_, rfl⟩
              obtain ⟨c38, hc38⟩ : ∃ c1, c1 = co37 - (1 : Int).toNat := ⟨_, rfl⟩
              have hy38 : y242.length = x0_1.length - (1 : Int).toNat := (by rw [Ny242.out, List.length_drop] <;> omega)
              rw [show (x0_1).drop (1 : Int).toNat = y242 from Ny242.out.symm] at hr38
              replace hr38 : Kd.F (Kd.int .i64) _ _ A38 y242.length y242 := (by rw [hA38]; exact hr38)
              rw [← hy38, ← hA38, ← hc38] at hcut38
              have HO246 := Aside0.mk (show Kd.V (Kd.int .i64) 3 _ w.heap.size _ (.slice A38 y242.length c38) y242 from Kd.V_mk (by rw [hy38, hc38]; exact Nat.sub_le_sub_right hroom38 _) hr38)
              have HC246 := Aside0.mk (show y242.length ≤ c38 from by rw [hy38, hc38]; exact Nat.sub_le_sub_right hroom38 _)
              clear hr38 hC38 hroom38 hi038 hsz38 hc38
              have KY38 := Aside0.mk hy38
              have KA38 := Aside0.mk hA38
              clear hy38 hA38
              replace q38 := eq_true q38
              go_wp2
              repeat (go_quiet (fail); try go_wp2)
              go_meet
              case rel => exact ⟨_, (y242), (rd x0_1 0), (by first | rfl | (simp; done) | (simp [*]; done)), H', ⟨by have := HK1.out; have := HJ6.out; have := HJ12.out; have := HJ22.out; first | omega | exact Nat.le_refl _⟩, ⟨by (with_reducible repeat (first | apply Kd.V_alloc | apply Kd.V_drewN | apply Kd.V_drew)); exact HO246.out⟩, ⟨by (with_reducible repeat (first | apply Kd.V_alloc | apply Kd.V_drewN | apply Kd.V_drew)); exact HO_1.out⟩, ⟨by (with_reducible repeat (first | apply Kd.R_alloc | apply Kd.R_drewN | apply Kd.R_drew)); exact HO_7.out⟩, ⟨by repeat (first | (with_reducible first | exact HB.out | apply below_alloc | apply pw_below_drewN | apply below_drew1) | exact HB.out)⟩⟩
             ·rw [if_neg c36] at H
              exact absurd H (by simp)
            ·rw [if_neg c35] at H
             exact absurd H (by simp)
           ·replace c34 := Bool.eq_false_iff.mpr c34
            subst c34
            have H1 : (post_join_of69.j4 kj22 x0_1 x1_1 x7_1 false x9_22 0) = some r := by rw [if_neg (show ¬ (false = true) by decide)] at H; exact H
            clear H
            have H := H1
            clear H1
            have H' := Aside0.mk H
            clear H
            go_wp2
            repeat (go_quiet (fail); try go_wp2)
            go_meet
            case rel => exact ⟨_, (x0_1), (0), (by first | rfl | (simp; done) | (simp [*]; done)), H', ⟨by have := HK1.out; have := HJ6.out; have := HJ12.out; have := HJ22.out; first | omega | exact Nat.le_refl _⟩, ⟨by (with_reducible repeat (first | apply Kd.V_alloc | apply Kd.V_drewN | apply Kd.V_drew)); exact HO_0.out⟩, ⟨by (with_reducible repeat (first | apply Kd.V_alloc | apply Kd.V_drewN | apply Kd.V_drew)); exact HO_1.out⟩, ⟨by (with_reducible repeat (first | apply Kd.R_alloc | apply Kd.R_drewN | apply Kd.R_drew)); exact HO_7.out⟩, ⟨by repeat (first | (with_reducible first | exact HB.out | apply below_alloc | apply pw_below_drewN | apply below_drew1) | exact HB.out)⟩⟩
          case rest =>
           clear HC33
           try clear c1
           try clear c2
           try clear p2
           try clear q2
           try clear hx2
           try clear qi2
           try clear c3
           try clear q3
           try clear c8
           try clear c8b0
           try clear c8b1
           try clear c10
           try clear c12
           try clear c14
           try clear c14b0
           try clear c14b1
           try clear c15
           try clear c15b0
           try clear c15b1
           try clear c15b2
           try clear c18
           try clear c18b0
           try clear c18b1
           try clear c19
           try clear c19b0
           try clear c19b1
           try clear p23
           try clear q23
           try clear hx23
           try clear qi23
           try clear c24
           try clear c24b0
           try clear c24b1
           try clear p24
           try clear q24
           try clear hx24
           try clear qi24
           try clear c25
           try clear c25b0
           try clear c25b1
           try clear c25b2
           try clear c28
           try clear c28b0
           try clear c28b1
           try clear c29
           try clear c29b0
           try clear c29b1
           try clear c34
           try clear c35
           try clear c35b0
           try clear c35b1
           try clear c36
           try clear c36b0
           try clear c36b1
           try clear c38
           try clear q38
           try clear hx237_0
           try clear hx238_0
           try clear hx239_0
           try clear hx240_0
           try clear hx241_0
           try clear p2
           try clear p23
           try clear p237
           try clear p238
           try clear p239
           try clear p24
           try clear p240
           try clear p241
           try clear q2
           try clear q23
           try clear q237
           try clear q238
           try clear q239
           try clear q24
           try clear q240
           try clear q241
           try clear q38
           obtain ⟨kq, x0_32, x10_32, rfl, HA, HJ32, HO_0, HO_1, HO_7, HB⟩ := hcut
           cases kq with
           | zero => exact absurd HA.out (by simp [post_join_of69.j4])
           | succ kj32 =>
            have H := HA.out
            clear HA
            simp only [post_join_of69.j4] at H
            by_cases c39 : x9_22 = true
            ·subst c39
             have H1 : (if 0 < (x1_1.length : Int) then (if 1 ≤ (x1_1.length : Int) then ((some (x1_1.drop 1 : List Int)).bind fun y248 => ((post_Either_1.f x8_12 true).bind fun t253 => (if t253 = true then (if x7_1.length < 17592186044416 then (post_join_of69.l0 kj32 x0_32 y248 (x7_1 ++ [rd x1_1 0])) else (none)) else (post_join_of69.l0 kj32 x0_32 y248 x7_1)))) else (none)) else (none)) = some r := by rw [if_pos rfl] at H; exact H
             clear H
             have H := H1
             clear H1
             by_cases c40 : 0 < (x1_1.length : Int)
             ·rw [if_pos c40] at H
              have c40b0 : decide (0 < (x1_1.length : Int)) = true := decide_eq_true c40
              have c40b1 : decide (0 < x1_1.length) = true := decide_eq_true (by omega)
              clear c40
              by_cases c41 : 1 ≤ (x1_1.length : Int)
              ·rw [if_pos c41] at H
               have c41b0 := eq_true c41
               have c41b1 : decide (1 ≤ (x1_1.length : Int)) = true := decide_eq_true c41
               clear c41
               obtain ⟨y248, hy248⟩ : ∃ y_ : List Int, y_ = (x1_1.drop 1) := ⟨_, rfl⟩
               replace H : ((post_Either_1.f x8_12 true).bind fun t253 => (if t253 = true then (if x7_1.length < 17592186044416 then (post_join_of69.l0 kj32 x0_32 y248 (x7_1 ++ [rd x1_1 0])) else (none)) else (post_join_of69.l0 kj32 x0_32 y248 x7_1))) = some r := by first | (rw [hy248]; with_reducible exact H) | (have H2_ := (Option.bind_some _ _).symm.trans H; rw [hy248]; with_reducible exact H2_) | (have H2_ := (Option.bind_some _ _).symm.trans H; with_reducible exact H2_) | with_reducible exact H | (rw [hy248]; exact H) | exact H
               have Ny248 := Aside0.mk hy248
               clear hy248
               replace H := Option.bind_eq_some_iff.mp H
               obtain ⟨t253, A420, H⟩ := H
               replace H : (if t253 = true then (if x7_1.length < 17592186044416 then (post_join_of69.l0 kj32 x0_32 y248 (x7_1 ++ [rd x1_1 0])) else (none)) else (post_join_of69.l0 kj32 x0_32 y248 x7_1)) = some r := H
               have A42 := Aside0.mk A420
               clear A420
               by_cases c43 : t253 = true
               ·subst c43
                have H1 : (if x7_1.length < 17592186044416 then (post_join_of69.l0 kj32 x0_32 y248 (x7_1 ++ [rd x1_1 0])) else (none)) = some r := by rw [if_pos rfl] at H; exact H
                clear H
                have H := H1
                clear H1
                by_cases c44 : x7_1.length < 17592186044416
                ·rw [if_pos c44] at H
                 have LMc44 := Aside0.mk c44
                 clear c44
                 obtain ⟨y254, hy254⟩ : ∃ y_ : List Int, y_ = (x7_1 ++ [rd x1_1 0]) := ⟨_, rfl⟩
                 replace H : (post_join_of69.l0 kj32 x0_32 y248 y254) = some r := by first | (rw [hy254]; with_reducible exact H) | (have H2_ := (Option.bind_some _ _).symm.trans H; rw [hy254]; with_reducible exact H2_) | (have H2_ := (Option.bind_some _ _).symm.trans H; with_reducible exact H2_) | with_reducible exact H | (rw [hy254]; exact H) | exact H
                 have Ny254 := Aside0.mk hy254
                 clear hy254
                 have H' := Aside0.mk H
                 clear H
                 obtain ⟨Ao45, co45, eo45⟩ := Kd.V_slice HO_1.out
                 subst eo45
                 have p247 : 0 ≤ (0 : Int) := (by omega)
                 have q247 : 0 < (x1_1.length : Int) := of_decide_eq_true (by first | (with_reducible assumption) | assumption)
                 obtain ⟨ad247, e247, hx247_0⟩ := Kd.at_int (Kd.V_reads' HO_1.out).2.2 0 p247 q247
                 cases e247
                 have qi247 : (0 < x1_1.length) = True := eq_true (by omega)
                 (try rw [show ((0 : Int)).toNat = 0 from rfl] at hx247_0)
                 (try rw [Addr.add_zero'] at hx247_0)
                 replace p247 := eq_true p247
                 replace q247 := eq_true q247
                 have q46 : (1 : Int) ≤ ((x1_1.length : Int) : Int) := of_decide_eq_true (by first | (with_reducible assumption) | assumption)
                 obtain ⟨i046, hi046, _, hsz46, _⟩ := info_parts info3
                 have hroom46 : x1_1.length ≤ co45 := (Kd.V_reads' HO_1.out).2.1
                 have hC46 : Kd.F (Kd.int .i64) _ _ (some ad247) x1_1.length x1_1 := (Kd.V_at (base := w.heap.size) HO_1.out).2.2
                 have hcut46 := cut_from (P := Tryd.prog) 54 3 .i64 Tryd.underlying54 hi046 1 hsz46 (some ad247) x1_1.length co45 1 (by omega) q46
                 have hr46 := Kd.F_cut (m := (1 : Int).toNat) (c := co45) hC46 (by omega) hroom46
                 obtain ⟨A46, hA46⟩ : ∃ A1, A1 = (if co45 = (1 : Int).toNat then (some ad247) else ((some ad247) : Option Addr).map (·.add ((1 : Int).toNat * 1))) := ⟨_, rfl⟩
                 obtain ⟨c46, hc46⟩ : ∃ c1, c1 = co45 - (1 : Int).toNat := ⟨_, rfl⟩
                 have hy46 : y248.length = x1_1.length - (1 : Int).toNat := (by rw [Ny248.out, List.length_drop] <;> omega)
                 rw [show (x1_1).drop (1 : Int).toNat = y248 from Ny248.out.symm] at hr46
                 replace hr46 : Kd.F (Kd.int .i64) _ _ A46 y248.length y248 := (by rw [hA46]; exact hr46)
                 rw [← hy46, ← hA46, ← hc46] at hcut46
                 have HO252 := Aside0.mk (show Kd.V (Kd.int .i64) 3 _ w.heap.size _ (.slice A46 y248.length c46) y248 from Kd.V_mk (by rw [hy46, hc46]; exact Nat.sub_le_sub_right hroom46 _) hr46)
                 have HC252 := Aside0.mk (show y248.length ≤ c46 from by rw [hy46, hc46]; exact Nat.sub_le_sub_right hroom46 _)
                 clear hr46 hC46 hroom46 hi046 hsz46 hc46
                 have KY46 := Aside0.mk hy46
                 have KA46 := Aside0.mk hA46
                 clear hy46 hA46
                 replace q46 := eq_true q46
                 go_wp2_with (first | (go_at_call 69; (with_reducible refine (post_Either_1.calls x8_12 true true _ A42.out).mono ?_); rintro e w' ⟨rfl, ⟨nd, rfl⟩⟩; (try first | exact ⟨rfl, _, World.drewN_drewN _ _ _⟩ | exact ⟨rfl, _, Eq.trans (World.drewN_drewN _ _ _) (congrArg (World.drewN _) (Nat.add_assoc _ _ _))⟩)) | ((with_reducible refine gate_builtin (b := .append) (xs := #[.tmp 73, .tmp 75]) rfl ?_); (try (refine gate_guard (by rfl) ?_; dsimp only)); at_builtin; refine Kd.R_append (Kd.int .i64) (w0 := w) w.heap.size rfl (.tmp 73) (.tmp 75) 54 3 (.int .i64 0) 8 rfl Tryd.underlying54 info3 rfl (by decide) (by omega) u7 x7_1 (rd x1_1 0) [.int .i64 (rd x1_1 0)] (fun _ => True) (fun _ => False) rfl rfl ?aP (fun _ hk => hk.elim) ?aF ?aO ?aB ?aS ?aL ?_; (case aP => exact rfl); (case aB => exact (by repeat (first | (with_reducible first | exact HB.out | apply below_alloc | apply pw_below_drewN | apply below_drew1) | exact HB.out))); (case aF => exact (fun _ _ => trivial)); (case aO => exact (by (with_reducible repeat (first | apply Kd.R_alloc | apply Kd.R_drewN | apply Kd.R_drew)); exact HO_7.out)); (case aS => exact (below_size (by repeat (first | (with_reducible first | exact HB.out | apply below_alloc | apply pw_below_drewN | apply below_drew1) | exact HB.out)))); (case aL => have := LMc44.out; omega); intro v255 w47 ho hb hg hat; rw [← Ny254.out] at ho; have n0_ := Aside0.mk (Kd.V_afterv (ok := (fun _ => True)) (by (with_reducible repeat (first | apply Kd.V_alloc | apply Kd.V_drewN | apply Kd.V_drew)); exact Kd.V_mono HO_0.out (fun _ hk => ⟨trivial, hk⟩)) hg hat); have n1_ := Aside0.mk (Kd.V_afterv (ok := (fun _ => True)) (by (with_reducible repeat (first | apply Kd.V_alloc | apply Kd.V_drewN | apply Kd.V_drew)); exact Kd.V_mono HO_1.out (fun _ hk => ⟨trivial, hk⟩)) hg hat); have n2_ := Aside0.mk (Kd.V_afterv (ok := (fun _ => True)) (by (with_reducible repeat (first | apply Kd.V_alloc | apply Kd.V_drewN | apply Kd.V_drew)); exact Kd.V_mono HO252.out (fun _ hk => ⟨trivial, hk⟩)) hg hat); have n3_ := Aside0.mk (hb); have n4_ := Aside0.mk (ho); clear HO_0; clear HO_1; clear HO252; clear HB; clear HO_7; have HO_0 := n0_; have HO_1 := n1_; have HO252 := n2_; have HB := n3_; have HO256 := n4_; clear n0_ n1_ n2_ n3_ n4_; clear ho hb hg hat))
                 repeat (go_quiet (first | (go_at_call 69; (with_reducible refine (post_Either_1.calls x8_12 true true _ A42.out).mono ?_); rintro e w' ⟨rfl, ⟨nd, rfl⟩⟩; (try first | exact ⟨rfl, _, World.drewN_drewN _ _ _⟩ | exact ⟨rfl, _, Eq.trans (World.drewN_drewN _ _ _) (congrArg (World.drewN _) (Nat.add_assoc _ _ _))⟩)) | ((with_reducible refine gate_builtin (b := .append) (xs := #[.tmp 73, .tmp 75]) rfl ?_); (try (refine gate_guard (by rfl) ?_; dsimp only)); at_builtin; refine Kd.R_append (Kd.int .i64) (w0 := w) w.heap.size rfl (.tmp 73) (.tmp 75) 54 3 (.int .i64 0) 8 rfl Tryd.underlying54 info3 rfl (by decide) (by omega) u7 x7_1 (rd x1_1 0) [.int .i64 (rd x1_1 0)] (fun _ => True) (fun _ => False) rfl rfl ?aP (fun _ hk => hk.elim) ?aF ?aO ?aB ?aS ?aL ?_; (case aP => exact rfl); (case aB => exact (by repeat (first | (with_reducible first | exact HB.out | apply below_alloc | apply pw_below_drewN | apply below_drew1) | exact HB.out))); (case aF => exact (fun _ _ => trivial)); (case aO => exact (by (with_reducible repeat (first | apply Kd.R_alloc | apply Kd.R_drewN | apply Kd.R_drew)); exact HO_7.out)); (case aS => exact (below_size (by repeat (first | (with_reducible first | exact HB.out | apply below_alloc | apply pw_below_drewN | apply below_drew1) | exact HB.out)))); (case aL => have := LMc44.out; omega); intro v255 w47 ho hb hg hat; rw [← Ny254.out] at ho; have n0_ := Aside0.mk (Kd.V_afterv (ok := (fun _ => True)) (by (with_reducible repeat (first | apply Kd.V_alloc | apply Kd.V_drewN | apply Kd.V_drew)); exact Kd.V_mono HO_0.out (fun _ hk => ⟨trivial, hk⟩)) hg hat); have n1_ := Aside0.mk (Kd.V_afterv (ok := (fun _ => True)) (by (with_reducible repeat (first | apply Kd.V_alloc | apply Kd.V_drewN | apply Kd.V_drew)); exact Kd.V_mono HO_1.out (fun _ hk => ⟨trivial, hk⟩)) hg hat); have n2_ := Aside0.mk (Kd.V_afterv (ok := (fun _ => True)) (by (with_reducible repeat (first | apply Kd.V_alloc | apply Kd.V_drewN | apply Kd.V_drew)); exact Kd.V_mono HO252.out (fun _ hk => ⟨trivial, hk⟩)) hg hat); have n3_ := Aside0.mk (hb); have n4_ := Aside0.mk (ho); clear HO_0; clear HO_1; clear HO252; clear HB; clear HO_7; have HO_0 := n0_; have HO_1 := n1_; have HO252 := n2_; have HB := n3_; have HO256 := n4_; clear n0_ n1_ n2_ n3_ n4_; clear ho hb hg hat)); try go_wp2_with (first | (go_at_call 69; (with_reducible refine (post_Either_1.calls x8_12 true true _ A42.out).mono ?_); rintro e w' ⟨rfl, ⟨nd, rfl⟩⟩; (try first | exact ⟨rfl, _, World.drewN_drewN _ _ _⟩ | exact ⟨rfl, _, Eq.trans (World.drewN_drewN _ _ _) (congrArg (World.drewN _) (Nat.add_assoc _ _ _))⟩)) | ((with_reducible refine gate_builtin (b := .append) (xs := #[.tmp 73, .tmp 75]) rfl ?_); (try (refine gate_guard (by rfl) ?_; dsimp only)); at_builtin; refine Kd.R_append (Kd.int .i64) (w0 := w) w.heap.size rfl (.tmp 73) (.tmp 75) 54 3 (.int .i64 0) 8 rfl Tryd.underlying54 info3 rfl (by decide) (by omega) u7 x7_1 (rd x1_1 0) [.int .i64 (rd x1_1 0)] (fun _ => True) (fun _ => False) rfl rfl ?aP (fun _ hk => hk.elim) ?aF ?aO ?aB ?aS ?aL ?_; (case aP => exact rfl); (case aB => exact (by repeat (first | (with_reducible first | exact HB.out | apply below_alloc | apply pw_below_drewN | apply below_drew1) | exact HB.out))); (case aF => exact (fun _ _ => trivial)); (case aO => exact (by (with_reducible repeat (first | apply Kd.R_alloc | apply Kd.R_drewN | apply Kd.R_drew)); exact HO_7.out)); (case aS => exact (below_size (by repeat (first | (with_reducible first | exact HB.out | apply below_alloc | apply pw_below_drewN | apply below_drew1) | exact HB.out)))); (case aL => have := LMc44.out; omega); intro v255 w47 ho hb hg hat; rw [← Ny254.out] at ho; have n0_ := Aside0.mk (Kd.V_afterv (ok := (fun _ => True)) (by (with_reducible repeat (first | apply Kd.V_alloc | apply Kd.V_drewN | apply Kd.V_drew)); exact Kd.V_mono HO_0.out (fun _ hk => ⟨trivial, hk⟩)) hg hat); have n1_ := Aside0.mk (Kd.V_afterv (ok := (fun _ => True)) (by (with_reducible repeat (first | apply Kd.V_alloc | apply Kd.V_drewN | apply Kd.V_drew)); exact Kd.V_mono HO_1.out (fun _ hk => ⟨trivial, hk⟩)) hg hat); have n2_ := Aside0.mk (Kd.V_afterv (ok := (fun _ => True)) (by (with_reducible repeat (first | apply Kd.V_alloc | apply Kd.V_drewN | apply Kd.V_drew)); exact Kd.V_mono HO252.out (fun _ hk => ⟨trivial, hk⟩)) hg hat); have n3_ := Aside0.mk (hb); have n4_ := Aside0.mk (ho); clear HO_0; clear HO_1; clear HO252; clear HB; clear HO_7; have HO_0 := n0_; have HO_1 := n1_; have HO252 := n2_; have HB := n3_; have HO256 := n4_; clear n0_ n1_ n2_ n3_ n4_; clear ho hb hg hat)))
                 go_roundg kj32
                 case measure => have := HK1.out; have := HJ6.out; have := HJ12.out; have := HJ22.out; have := HJ32.out; omega
                 case rel => exact ⟨(x0_32), (y248), (y254), H', ⟨by have := HK1.out; have := HJ6.out; have := HJ12.out; have := HJ22.out; have := HJ32.out; omega⟩, ⟨by (with_reducible repeat (first | apply Kd.V_alloc | apply Kd.V_drewN | apply Kd.V_drew)); exact Kd.V_mono HO_0.out (fun _ hk => hk.2)⟩, ⟨by (with_reducible repeat (first | apply Kd.V_alloc | apply Kd.V_drewN | apply Kd.V_drew)); exact Kd.V_mono HO252.out (fun _ hk => hk.2)⟩, ⟨by (with_reducible repeat (first | apply Kd.R_alloc | apply Kd.R_drewN | apply Kd.R_drew)); exact HO256.out⟩, ⟨by repeat (first | (with_reducible first | exact HB.out | apply below_alloc | apply pw_below_drewN | apply below_drew1) | exact HB.out)⟩⟩
                ·rw [if_neg c44] at H
                 exact absurd H (by simp)
               ·replace c43 := Bool.eq_false_iff.mpr c43
                subst c43
                have H1 : (post_join_of69.l0 kj32 x0_32 y248 x7_1) = some r := by rw [if_neg (show ¬ (false = true) by decide)] at H; exact H
                clear H
                have H := H1
                clear H1
                have H' := Aside0.mk H
                clear H
                obtain ⟨Ao48, co48, eo48⟩ := Kd.V_slice HO_1.out
                subst eo48
                have p247 : 0 ≤ (0 : Int) := (by omega)
                have q247 : 0 < (x1_1.length : Int) := of_decide_eq_true (by first | (with_reducible assumption) | assumption)
                obtain ⟨ad247, e247, hx247_0⟩ := Kd.at_int (Kd.V_reads' HO_1.out).2.2 0 p247 q247
                cases e247
                have qi247 : (0 < x1_1.length) = True := eq_true (by omega)
                (try rw [show ((0 : Int)).toNat = 0 from rfl] at hx247_0)
                (try rw [Addr.add_zero'] at hx247_0)
                replace p247 := eq_true p247
                replace q247 := eq_true q247
                have q49 : (1 : Int) ≤ ((x1_1.length : Int) : Int) := of_decide_eq_true (by first | (with_reducible assumption) | assumption)
                obtain ⟨i049, hi049, _, hsz49, _⟩ := info_parts info3
                have hroom49 : x1_1.length ≤ co48 := (Kd.V_reads' HO_1.out).2.1
                have hC49 : Kd.F (Kd.int .i64) _ _ (some ad247) x1_1.length x1_1 := (Kd.V_at (base := w.heap.size) HO_1.out).2.2
                have hcut49 := cut_from (P := Tryd.prog) 54 3 .i64 Tryd.underlying54 hi049 1 hsz49 (some ad247) x1_1.length co48 1 (by omega) q49
                have hr49 := Kd.F_cut (m := (1 : Int).toNat) (c := co48) hC49 (by omega) hroom49
                obtain ⟨A49, hA49⟩ : ∃ A1, A1 = (if co48 = (1 : Int).toNat then (some ad247) else ((some ad247) : Option Addr).map (·.add ((1 : Int).toNat * 1))) := ⟨_, rfl⟩
                obtain ⟨c49, hc49⟩ : ∃ c1, c1 = co48 - (1 : Int).toNat := ⟨_, rfl⟩
                have hy49 : y248.length = x1_1.length - (1 : Int).toNat := (by rw [Ny248.out, List.length_drop] <;> omega)
                rw [show (x1_1).drop (1 : Int).toNat = y248 from Ny248.out.symm] at hr49
                replace hr49 : Kd.F (Kd.int .i64) _ _ A49 y248.length y248 := (by rw [hA49]; exact hr49)
                rw [← hy49, ← hA49, ← hc49] at hcut49
                have HO252 := Aside0.mk (show Kd.V (Kd.int .i64) 3 _ w.heap.size _ (.slice A49 y248.length c49) y248 from Kd.V_mk (by rw [hy49, hc49]; exact Nat.sub_le_sub_right hroom49 _) hr49)
                have HC252 := Aside0.mk (show y248.length ≤ c49 from by rw [hy49, hc49]; exact Nat.sub_le_sub_right hroom49 _)
                clear hr49 hC49 hroom49 hi049 hsz49 hc49
                have KY49 := Aside0.mk hy49
                have KA49 := Aside0.mk hA49
                clear hy49 hA49
                replace q49 := eq_true q49
                go_wp2_with (first | (go_at_call 69; (with_reducible refine (post_Either_1.calls x8_12 true false _ A42.out).mono ?_); rintro e w' ⟨rfl, ⟨nd, rfl⟩⟩; (try first | exact ⟨rfl, _, World.drewN_drewN _ _ _⟩ | exact ⟨rfl, _, Eq.trans (World.drewN_drewN _ _ _) (congrArg (World.drewN _) (Nat.add_assoc _ _ _))⟩)))
                repeat (go_quiet (first | (go_at_call 69; (with_reducible refine (post_Either_1.calls x8_12 true false _ A42.out).mono ?_); rintro e w' ⟨rfl, ⟨nd, rfl⟩⟩; (try first | exact ⟨rfl, _, World.drewN_drewN _ _ _⟩ | exact ⟨rfl, _, Eq.trans (World.drewN_drewN _ _ _) (congrArg (World.drewN _) (Nat.add_assoc _ _ _))⟩))); try go_wp2_with (first | (go_at_call 69; (with_reducible refine (post_Either_1.calls x8_12 true false _ A42.out).mono ?_); rintro e w' ⟨rfl, ⟨nd, rfl⟩⟩; (try first | exact ⟨rfl, _, World.drewN_drewN _ _ _⟩ | exact ⟨rfl, _, Eq.trans (World.drewN_drewN _ _ _) (congrArg (World.drewN _) (Nat.add_assoc _ _ _))⟩))))
                go_roundg kj32
                case measure => have := HK1.out; have := HJ6.out; have := HJ12.out; have := HJ22.out; have := HJ32.out; omega
                case rel => exact ⟨(x0_32), (y248), (x7_1), H', ⟨by have := HK1.out; have := HJ6.out; have := HJ12.out; have := HJ22.out; have := HJ32.out; omega⟩, ⟨by (with_reducible repeat (first | apply Kd.V_alloc | apply Kd.V_drewN | apply Kd.V_drew)); exact HO_0.out⟩, ⟨by (with_reducible repeat (first | apply Kd.V_alloc | apply Kd.V_drewN | apply Kd.V_drew)); exact HO252.out⟩, ⟨by (with_reducible repeat (first | apply Kd.R_alloc | apply Kd.R_drewN | apply Kd.R_drew)); exact HO_7.out⟩, ⟨by repeat (first | (with_reducible first | exact HB.out | apply below_alloc | apply pw_below_drewN | apply below_drew1) | exact HB.out)⟩⟩
              ·rw [if_neg c41] at H
               exact absurd H (by simp)
             ·rw [if_neg c40] at H
              exact absurd H (by simp)
            ·replace c39 := Bool.eq_false_iff.mpr c39
             subst c39
             have H1 : ((post_Either_1.f x8_12 false).bind fun t257 => (if t257 = true then (if x7_1.length < 17592186044416 then (post_join_of69.l0 kj32 x0_32 x1_1 (x7_1 ++ [x10_32])) else (none)) else (post_join_of69.l0 kj32 x0_32 x1_1 x7_1))) = some r := by rw [if_neg (show ¬ (false = true) by decide)] at H; exact H
             clear H
             have H := H1
             clear H1
             replace H := Option.bind_eq_some_iff.mp H
             obtain ⟨t257, A500, H⟩ := H
             replace H : (if t257 = true then (if x7_1.length < 17592186044416 then (post_join_of69.l0 kj32 x0_32 x1_1 (x7_1 ++ [x10_32])) else (none)) else (post_join_of69.l0 kj32 x0_32 x1_1 x7_1)) = some r := H
             have A50 := Aside0.mk A500
             clear A500
             by_cases c51 : t257 = true
             ·subst c51
              have H1 : (if x7_1.length < 17592186044416 then (post_join_of69.l0 kj32 x0_32 x1_1 (x7_1 ++ [x10_32])) else (none)) = some r := by rw [if_pos rfl] at H; exact H
              clear H
              have H := H1
              clear H1
              by_cases c52 : x7_1.length < 17592186044416
              ·rw [if_pos c52] at H
               have LMc52 := Aside0.mk c52
               clear c52
               obtain ⟨y258, hy258⟩ : ∃ y_ : List Int, y_ = (x7_1 ++ [x10_32]) := ⟨_, rfl⟩
               replace H : (post_join_of69.l0 kj32 x0_32 x1_1 y258) = some r := by first | (rw [hy258]; with_reducible exact H) | (have H2_ := (Option.bind_some _ _).symm.trans H; rw [hy258]; with_reducible exact H2_) | (have H2_ := (Option.bind_some _ _).symm.trans H; with_reducible exact H2_) | with_reducible exact H | (rw [hy258]; exact H) | exact H
               have Ny258 := Aside0.mk hy258
               clear hy258
               have H' := Aside0.mk H
               clear H
               go_wp2_with (first | (go_at_call 69; (with_reducible refine (post_Either_1.calls x8_12 false true _ A50.out).mono ?_); rintro e w' ⟨rfl, ⟨nd, rfl⟩⟩; (try first | exact ⟨rfl, _, World.drewN_drewN _ _ _⟩ | exact ⟨rfl, _, Eq.trans (World.drewN_drewN _ _ _) (congrArg (World.drewN _) (Nat.add_assoc _ _ _))⟩)) | ((with_reducible refine gate_builtin (b := .append) (xs := #[.tmp 73, .tmp 75]) rfl ?_); (try (refine gate_guard (by rfl) ?_; dsimp only)); at_builtin; refine Kd.R_append (Kd.int .i64) (w0 := w) w.heap.size rfl (.tmp 73) (.tmp 75) 54 3 (.int .i64 0) 8 rfl Tryd.underlying54 info3 rfl (by decide) (by omega) u7 x7_1 x10_32 [.int .i64 x10_32] (fun _ => True) (fun _ => False) rfl rfl ?aP (fun _ hk => hk.elim) ?aF ?aO ?aB ?aS ?aL ?_; (case aP => exact rfl); (case aB => exact (by repeat (first | (with_reducible first | exact HB.out | apply below_alloc | apply pw_below_drewN | apply below_drew1) | exact HB.out))); (case aF => exact (fun _ _ => trivial)); (case aO => exact (by (with_reducible repeat (first | apply Kd.R_alloc | apply Kd.R_drewN | apply Kd.R_drew)); exact HO_7.out)); (case aS => exact (below_size (by repeat (first | (with_reducible first | exact HB.out | apply below_alloc | apply pw_below_drewN | apply below_drew1) | exact HB.out)))); (case aL => have := LMc52.out; omega); intro v259 w53 ho hb hg hat; rw [← Ny258.out] at ho; have n0_ := Aside0.mk (Kd.V_afterv (ok := (fun _ => True)) (by (with_reducible repeat (first | apply Kd.V_alloc | apply Kd.V_drewN | apply Kd.V_drew)); exact Kd.V_mono HO_0.out (fun _ hk => ⟨trivial, hk⟩)) hg hat); have n1_ := Aside0.mk (Kd.V_afterv (ok := (fun _ => True)) (by (with_reducible repeat (first | apply Kd.V_alloc | apply Kd.V_drewN | apply Kd.V_drew)); exact Kd.V_mono HO_1.out (fun _ hk => ⟨trivial, hk⟩)) hg hat); have n2_ := Aside0.mk (hb); have n3_ := Aside0.mk (ho); clear HO_0; clear HO_1; clear HB; clear HO_7; have HO_0 := n0_; have HO_1 := n1_; have HB := n2_; have HO260 := n3_; clear n0_ n1_ n2_ n3_; clear ho hb hg hat))
               repeat (go_quiet (first | (go_at_call 69; (with_reducible refine (post_Either_1.calls x8_12 false true _ A50.out).mono ?_); rintro e w' ⟨rfl, ⟨nd, rfl⟩⟩; (try first | exact ⟨rfl, _, World.drewN_drewN _ _ _⟩ | exact ⟨rfl, _, Eq.trans (World.drewN_drewN _ _ _) (congrArg (World.drewN _) (Nat.add_assoc _ _ _))⟩)) | ((with_reducible refine gate_builtin (b := .append) (xs := #[.tmp 73, .tmp 75]) rfl ?_); (try (refine gate_guard (by rfl) ?_; dsimp only)); at_builtin; refine Kd.R_append (Kd.int .i64) (w0 := w) w.heap.size rfl (.tmp 73) (.tmp 75) 54 3 (.int .i64 0) 8 rfl Tryd.underlying54 info3 rfl (by decide) (by omega) u7 x7_1 x10_32 [.int .i64 x10_32] (fun _ => True) (fun _ => False) rfl rfl ?aP (fun _ hk => hk.elim) ?aF ?aO ?aB ?aS ?aL ?_; (case aP => exact rfl); (case aB => exact (by repeat (first | (with_reducible first | exact HB.out | apply below_alloc | apply pw_below_drewN | apply below_drew1) | exact HB.out))); (case aF => exact (fun _ _ => trivial)); (case aO => exact (by (with_reducible repeat (first | apply Kd.R_alloc | apply Kd.R_drewN | apply Kd.R_drew)); exact HO_7.out)); (case aS => exact (below_size (by repeat (first | (with_reducible first | exact HB.out | apply below_alloc | apply pw_below_drewN | apply below_drew1) | exact HB.out)))); (case aL => have := LMc52.out; omega); intro v259 w53 ho hb hg hat; rw [← Ny258.out] at ho; have n0_ := Aside0.mk (Kd.V_afterv (ok := (fun _ => True)) (by (with_reducible repeat (first | apply Kd.V_alloc | apply Kd.V_drewN | apply Kd.V_drew)); exact Kd.V_mono HO_0.out (fun _ hk => ⟨trivial, hk⟩)) hg hat); have n1_ := Aside0.mk (Kd.V_afterv (ok := (fun _ => True)) (by (with_reducible repeat (first | apply Kd.V_alloc | apply Kd.V_drewN | apply Kd.V_drew)); exact Kd.V_mono HO_1.out (fun _ hk => ⟨trivial, hk⟩)) hg hat); have n2_ := Aside0.mk (hb); have n3_ := Aside0.mk (ho); clear HO_0; clear HO_1; clear HB; clear HO_7; have HO_0 := n0_; have HO_1 := n1_; have HB := n2_; have HO260 := n3_; clear n0_ n1_ n2_ n3_; clear ho hb hg hat)); try go_wp2_with (first | (go_at_call 69; (with_reducible refine (post_Either_1.calls x8_12 false true _ A50.out).mono ?_); rintro e w' ⟨rfl, ⟨nd, rfl⟩⟩; (try first | exact ⟨rfl, _, World.drewN_drewN _ _ _⟩ | exact ⟨rfl, _, Eq.trans (World.drewN_drewN _ _ _) (congrArg (World.drewN _) (Nat.add_assoc _ _ _))⟩)) | ((with_reducible refine gate_builtin (b := .append) (xs := #[.tmp 73, .tmp 75]) rfl ?_); (try (refine gate_guard (by rfl) ?_; dsimp only)); at_builtin; refine Kd.R_append (Kd.int .i64) (w0 := w) w.heap.size rfl (.tmp 73) (.tmp 75) 54 3 (.int .i64 0) 8 rfl Tryd.underlying54 info3 rfl (by decide) (by omega) u7 x7_1 x10_32 [.int .i64 x10_32] (fun _ => True) (fun _ => False) rfl rfl ?aP (fun _ hk => hk.elim) ?aF ?aO ?aB ?aS ?aL ?_; (case aP => exact rfl); (case aB => exact (by repeat (first | (with_reducible first | exact HB.out | apply below_alloc | apply pw_below_drewN | apply below_drew1) | exact HB.out))); (case aF => exact (fun _ _ => trivial)); (case aO => exact (by (with_reducible repeat (first | apply Kd.R_alloc | apply Kd.R_drewN | apply Kd.R_drew)); exact HO_7.out)); (case aS => exact (below_size (by repeat (first | (with_reducible first | exact HB.out | apply below_alloc | apply pw_below_drewN | apply below_drew1) | exact HB.out)))); (case aL => have := LMc52.out; omega); intro v259 w53 ho hb hg hat; rw [← Ny258.out] at ho; have n0_ := Aside0.mk (Kd.V_afterv (ok := (fun _ => True)) (by (with_reducible repeat (first | apply Kd.V_alloc | apply Kd.V_drewN | apply Kd.V_drew)); exact Kd.V_mono HO_0.out (fun _ hk => ⟨trivial, hk⟩)) hg hat); have n1_ := Aside0.mk (Kd.V_afterv (ok := (fun _ => True)) (by (with_reducible repeat (first | apply Kd.V_alloc | apply Kd.V_drewN | apply Kd.V_drew)); exact Kd.V_mono HO_1.out (fun _ hk => ⟨trivial, hk⟩)) hg hat); have n2_ := Aside0.mk (hb); have n3_ := Aside0.mk (ho); clear HO_0; clear HO_1; clear HB; clear HO_7; have HO_0 := n0_; have HO_1 := n1_; have HB := n2_; have HO260 := n3_; clear n0_ n1_ n2_ n3_; clear ho hb hg hat)))
               go_roundg kj32
               case measure => have := HK1.out; have := HJ6.out; have := HJ12.out; have := HJ22.out; have := HJ32.out; omega
               case rel => exact ⟨(x0_32), (x1_1), (y258), H', ⟨by have := HK1.out; have := HJ6.out; have := HJ12.out; have := HJ22.out; have := HJ32.out; omega⟩, ⟨by (with_reducible repeat (first | apply Kd.V_alloc | apply Kd.V_drewN | apply Kd.V_drew)); exact Kd.V_mono HO_0.out (fun _ hk => hk.2)⟩, ⟨by (with_reducible repeat (first | apply Kd.V_alloc | apply Kd.V_drewN | apply Kd.V_drew)); exact Kd.V_mono HO_1.out (fun _ hk => hk.2)⟩, ⟨by (with_reducible repeat (first | apply Kd.R_alloc | apply Kd.R_drewN | apply Kd.R_drew)); exact HO260.out⟩, ⟨by repeat (first | (with_reducible first | exact HB.out | apply below_alloc | apply pw_below_drewN | apply below_drew1) | exact HB.out)⟩⟩
              ·rw [if_neg c52] at H
               exact absurd H (by simp)
             ·replace c51 := Bool.eq_false_iff.mpr c51
              subst c51
              have H1 : (post_join_of69.l0 kj32 x0_32 x1_1 x7_1) = some r := by rw [if_neg (show ¬ (false = true) by decide)] at H; exact H
              clear H
              have H := H1
              clear H1
              have H' := Aside0.mk H
              clear H
              go_wp2_with (first | (go_at_call 69; (with_reducible refine (post_Either_1.calls x8_12 false false _ A50.out).mono ?_); rintro e w' ⟨rfl, ⟨nd, rfl⟩⟩; (try first | exact ⟨rfl, _, World.drewN_drewN _ _ _⟩ | exact ⟨rfl, _, Eq.trans (World.drewN_drewN _ _ _) (congrArg (World.drewN _) (Nat.add_assoc _ _ _))⟩)))
              repeat (go_quiet (first | (go_at_call 69; (with_reducible refine (post_Either_1.calls x8_12 false false _ A50.out).mono ?_); rintro e w' ⟨rfl, ⟨nd, rfl⟩⟩; (try first | exact ⟨rfl, _, World.drewN_drewN _ _ _⟩ | exact ⟨rfl, _, Eq.trans (World.drewN_drewN _ _ _) (congrArg (World.drewN _) (Nat.add_assoc _ _ _))⟩))); try go_wp2_with (first | (go_at_call 69; (with_reducible refine (post_Either_1.calls x8_12 false false _ A50.out).mono ?_); rintro e w' ⟨rfl, ⟨nd, rfl⟩⟩; (try first | exact ⟨rfl, _, World.drewN_drewN _ _ _⟩ | exact ⟨rfl, _, Eq.trans (World.drewN_drewN _ _ _) (congrArg (World.drewN _) (Nat.add_assoc _ _ _))⟩))))
              go_roundg kj32
              case measure => have := HK1.out; have := HJ6.out; have := HJ12.out; have := HJ22.out; have := HJ32.out; omega
              case rel => exact ⟨(x0_32), (x1_1), (x7_1), H', ⟨by have := HK1.out; have := HJ6.out; have := HJ12.out; have := HJ22.out; have := HJ32.out; omega⟩, ⟨by (with_reducible repeat (first | apply Kd.V_alloc | apply Kd.V_drewN | apply Kd.V_drew)); exact HO_0.out⟩, ⟨by (with_reducible repeat (first | apply Kd.V_alloc | apply Kd.V_drewN | apply Kd.V_drew)); exact HO_1.out⟩, ⟨by (with_reducible repeat (first | apply Kd.R_alloc | apply Kd.R_drewN | apply Kd.R_drew)); exact HO_7.out⟩, ⟨by repeat (first | (with_reducible first | exact HB.out | apply below_alloc | apply pw_below_drewN | apply below_drew1) | exact HB.out)⟩⟩
     ·replace c12 := Bool.eq_false_iff.mpr c12
      subst c12
      have H1 : (some x7_1) = some r := by rw [if_neg (show ¬ (false = true) by decide)] at H; exact H
      clear H
      have H := H1
      clear H1
      obtain rfl := Option.some.inj H
      go_wp2
      repeat (go_quiet (fail); try go_wp2)
      go_ret
      exact ⟨_, by first | rfl | (simp [errW_none, errW_some] <;> rfl) | (simp [*, errW_none, errW_some] <;> rfl), by (with_reducible repeat (first | apply Kd.R_alloc | apply Kd.R_drewN | apply Kd.R_drew)); exact HO_7.out, by repeat (first | (with_reducible first | exact HB.out | apply below_alloc | apply pw_below_drewN | apply below_drew1) | exact HB.out)⟩
end Go.Proofs.YtgcfhgkhokljcaaDoor.PA
namespace Go.Proofs.YtgcfhgkhokljcaaDoor.PA
open Go.RowKit Go.Proofs.YtgcfhgkhokljcaaDoorW.PrintWords Go.Proofs.YtgcfhgkhokljcaaDoorW.PrintLast Go.Proofs.YtgcfhgkhokljcaaDoorW.PrintMore
attribute [local go_sem] max2_int min2_int max_two min_two max_three min_three max_four min_four   -- for this text's walks alone
set_option linter.unusedVariables false
set_option linter.unusedSimpArgs false
/-! ### post_Either: function 53 -/
def post_Either.f (k : Nat) (l0 : List Int) (l1 : List Int) : Option (List Int) := (post_join_of69.f k l0 l1).bind fun t261 => (some t261)
theorem post_Either.mono : ∀ a0 a1 k, LeO (post_Either.f k a0 a1) (post_Either.f (k + 1) a0 a1) := by
 intro a0 a1 k
 unfold post_Either.f
 repeat' first
   | (with_reducible exact post_join_of69.mono _ _ _)
   | (with_reducible exact LeO.refl _)
   | (with_reducible exact LeO.none _)
   | (with_reducible refine LeO.ite ?_ ?_)
   | (with_reducible refine LeO.bind ?_ (fun _ => ?_))
set_option maxHeartbeats 8000000 in
set_option maxRecDepth 100000 in
theorem post_Either.calls (k : Nat) (A0 : Option Addr) (c0 : Nat) (l0 : List Int) (A1 : Option Addr) (c1 : Nat) (l1 : List Int) (r : List Int) (w : World) (hr0 : Kd.C (Kd.int .i64) w A0 l0.length l0) (hc0 : l0.length ≤ c0) (hr1 : Kd.C (Kd.int .i64) w A1 l1.length l1) (hc1 : l1.length ≤ c1) (h : post_Either.f k l0 l1 = some r) :
  Calls Tryd.prog 53 #[.slice A0 l0.length c0, .slice A1 l1.length c1] w fun e w' => ∃ v0_ : Value, e = .returned (v0_) ∧ Kd.R (Kd.int .i64) 3 w' w.heap.size (fun _ => True) v0_ r ∧ Below w.heap.size w w' := by
 have HR0 := Aside0.mk hr0
 have HC0 := Aside0.mk hc0
 clear hr0 hc0
 have HR1 := Aside0.mk hr1
 have HC1 := Aside0.mk hc1
 clear hr1 hc1
 have HB := Aside0.mk (Below.refl w.heap.size w)
 have H : ((post_join_of69.f k l0 l1).bind fun t261 => (some t261)) = some r := h
 clear h
 replace H := Option.bind_eq_some_iff.mp H
 obtain ⟨t261, A30, H⟩ := H
 replace H : (some t261) = some r := H
 have A3 := Aside0.mk A30
 clear A30
 obtain rfl := Option.some.inj H
 go_enter Tryd.func53, Tryd.ntmps53
 go_wp2_with (first | ((with_reducible refine gate_callee (f := 67) rfl ?_); refine goesL_ (some 7) rfl rfl Tryd.func67 (by kernel_rfl) rfl #[.slice A0 l0.length c0, .slice A1 l1.length c1, .func (.func 69) #[] #[]] rfl (by (try simp only [List.map_toArray, List.map_cons, List.map_nil]); first | done | rfl | (simp only [List.length_drop, List.length_take]; rfl)) ?_; (with_reducible refine (post_join_of69.calls k _ _ l0 _ _ l1 t261 _ ?side1 ?side2 ?side3 ?side4 A3.out).mono ?_); (case side1 => repeat (first | exact HR0.out | (with_reducible refine Kd.C_alloc ?_ _) | (with_reducible refine Kd.C_drewN ?_ _) | (with_reducible refine Kd.C_drew ?_))); (case side2 => exact HC0.out); (case side3 => repeat (first | exact HR1.out | (with_reducible refine Kd.C_alloc ?_ _) | (with_reducible refine Kd.C_drewN ?_ _) | (with_reducible refine Kd.C_drew ?_))); (case side4 => exact HC1.out); rintro e w4 ⟨v262, rfl, ho0, hb⟩; refine ⟨_, rfl, ?_⟩; have n0_ := Aside0.mk (Kd.R_lower ho0 (below_size (by repeat (first | (with_reducible first | exact HB.out | apply below_alloc | apply pw_below_drewN | apply below_drew1) | exact HB.out)))); have n1_ := Aside0.mk (below_step (by repeat (first | (with_reducible first | exact HB.out | apply below_alloc | apply pw_below_drewN | apply below_drew1) | exact HB.out)) hb); clear HB; have HO263 := n0_; have HB := n1_; clear n0_ n1_; (try clear hb); (try clear hb2); (try clear hk); (try clear hi); (try clear ho0)))
 go_ret
 exact ⟨_, by first | rfl | (simp [errW_none, errW_some] <;> rfl) | (simp [*, errW_none, errW_some] <;> rfl), by (with_reducible repeat (first | apply Kd.R_alloc | apply Kd.R_drewN | apply Kd.R_drew)); exact HO263.out, by repeat (first | (with_reducible first | exact HB.out | apply below_alloc | apply pw_below_drewN | apply below_drew1) | exact HB.out)⟩
/-! ### post_But_1: function 70 -/
def post_But_1.f (a0 : Bool) (a1 : Bool) : Option (Bool) := if a0 = true then (some (!a1)) else (some false)
set_option maxHeartbeats 8000000 in
set_option maxRecDepth 100000 in
theorem post_But_1.calls (a0 : Bool) (a1 : Bool) (r : Bool) (w : World) (h : post_But_1.f a0 a1 = some r) :
  Calls Tryd.prog 70 #[.bool a0, .bool a1] w fun e w' => e = .returned (.bool r) ∧ Drawn0 w w' := by
 have H : (if a0 = true then (some (!a1)) else (some false)) = some r := h
 clear h
 by_cases c3 : a0 = true
 ·subst c3
  have H1 : (some (!a1)) = some r := by rw [if_pos rfl] at H; exact H
  clear H
  have H := H1
  clear H1
  obtain rfl := Option.some.inj H
  go_enter Tryd.func70, Tryd.ntmps70
  go_wp2
  go_ret
  exact ⟨by first | rfl | (simp; done) | (simp [*]; done), by repeat (first | exact Drawn0.refl _ | apply Drawn0.step)⟩
 ·replace c3 := Bool.eq_false_iff.mpr c3
  subst c3
  have H1 : (some false) = some r := by rw [if_neg (show ¬ (false = true) by decide)] at H; exact H
  clear H
  have H := H1
  clear H1
  obtain rfl := Option.some.inj H
  go_enter Tryd.func70, Tryd.ntmps70
  go_wp2
  go_ret
  exact ⟨by first | rfl | (simp; done) | (simp [*]; done), by repeat (first | exact Drawn0.refl _ | apply Drawn0.step)⟩
end Go.Proofs.YtgcfhgkhokljcaaDoor.PA

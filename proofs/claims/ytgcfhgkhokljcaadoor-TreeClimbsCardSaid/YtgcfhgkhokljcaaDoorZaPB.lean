import Derived.Test.YtgcfhgkhokljcaaDoorZaHBulk
import Derived.Test.YtgcfhgkhokljcaaDoorZaPB0
-- PRINTED by print.py (a twelfth state) out of the translation. Not trusted: Lean checks it.
namespace Go.Proofs.YtgcfhgkhokljcaaDoor.PB
open Go.RowKit Go.Proofs.YtgcfhgkhokljcaaDoor Go.Proofs.YtgcfhgkhokljcaaDoor.HSha Go.Proofs.YtgcfhgkhokljcaaDoor.PS Go.Proofs.YtgcfhgkhokljcaaDoor.PR Go.Proofs.YtgcfhgkhokljcaaDoor.PT Go.Proofs.YtgcfhgkhokljcaaDoorW.PrintWords Go.Proofs.YtgcfhgkhokljcaaDoorW.PrintLast Go.Proofs.YtgcfhgkhokljcaaDoorW.PrintMore
attribute [local go_sem] max2_int min2_int max_two min_two max_three min_three max_four min_four   -- for this text's walks alone
set_option linter.unusedVariables false
set_option linter.unusedSimpArgs false
/-! ### tree_sides: function 41 -/
mutual
def tree_sides.l0 : Nat → Int → Int → List Bool → Option (List Bool)
 | 0, _, _, _ => none
 | k + 1, x0, x1, x5 => if x1 > 1 then ((tree_Split.f k x1).bind fun t168 => (if x5.length < 140737488355328 then ((some (x5 ++ [decide (x0 < t168)] : List Bool)).bind fun y169 => (if x0 < t168 then (tree_sides.l0 k x0 t168 y169) else (tree_sides.l0 k (wrap64 (x0 - t168)) (wrap64 (x1 - t168)) y169))) else (none))) else (tree_sides.l1 k x5 0 (wrap64 ((x5.length : Int) - 1)))
def tree_sides.l1 : Nat → List Bool → Int → Int → Option (List Bool)
 | 0, _, _, _ => none
 | k + 1, x5, x7, x8 => if x7 < x8 then (if 0 ≤ x8 then (if x8 < (x5.length : Int) then (if 0 ≤ x7 then (if x7 < (x5.length : Int) then (tree_sides.l1 k ((x5.set (x7 : Int).toNat (rdOf false x5 x8)).set (x8 : Int).toNat (rdOf false x5 x7)) (wrap64 (x7 + 1)) (wrap64 (x8 - 1))) else (none)) else (none)) else (none)) else (none)) else (some x5)
end
def tree_sides.f (k : Nat) (a0 : Int) (a1 : Int) : Option (List Bool) := tree_sides.l0 k a0 a1 ([] : List Bool)
theorem tree_sides.mono_l : ∀ k, (∀ y0 y1 y2, LeO (tree_sides.l0 k y0 y1 y2) (tree_sides.l0 (k + 1) y0 y1 y2)) ∧ (∀ y0 y1 y2, LeO (tree_sides.l1 k y0 y1 y2) (tree_sides.l1 (k + 1) y0 y1 y2))
 | 0 => ⟨fun _ _ _ r h => by simp [tree_sides.l0] at h, fun _ _ _ r h => by simp [tree_sides.l1] at h⟩
 | k + 1 => by
  obtain ⟨ih0, ih1⟩ := tree_sides.mono_l k
  refine ⟨?_, ?_⟩
  ·intro y0 y1 y2
   unfold tree_sides.l0
   repeat' first
   | (with_reducible exact ih0 _ _ _)
   | (with_reducible exact ih1 _ _ _)
   | (with_reducible exact tree_Split.mono _ _)
   | (with_reducible exact LeO.refl _)
   | (with_reducible exact LeO.none _)
   | (with_reducible refine LeO.ite ?_ ?_)
   | (with_reducible refine LeO.bind ?_ (fun _ => ?_))
  ·intro y0 y1 y2
   unfold tree_sides.l1
   repeat' first
   | (with_reducible exact ih0 _ _ _)
   | (with_reducible exact ih1 _ _ _)
   | (with_reducible exact tree_Split.mono _ _)
   | (with_reducible exact LeO.refl _)
   | (with_reducible exact LeO.none _)
   | (with_reducible refine LeO.ite ?_ ?_)
   | (with_reducible refine LeO.bind ?_ (fun _ => ?_))
theorem tree_sides.mono : ∀ a0 a1 k, LeO (tree_sides.f k a0 a1) (tree_sides.f (k + 1) a0 a1) := by
 intro a0 a1 k
 obtain ⟨ih0, ih1⟩ := tree_sides.mono_l k
 unfold tree_sides.f
 repeat' first
   | (with_reducible exact ih0 _ _ _)
   | (with_reducible exact ih1 _ _ _)
   | (with_reducible exact tree_Split.mono _ _)
   | (with_reducible exact LeO.refl _)
   | (with_reducible exact LeO.none _)
   | (with_reducible refine LeO.ite ?_ ?_)
   | (with_reducible refine LeO.bind ?_ (fun _ => ?_))
def tree_sides.T11 : Bool × List (List Nat × List Nat) := (true, [([], []), ([], []), ([], []), ([], []), ([], []), ([], []), ([4, 5], [4, 5]), ([6], [6]), ([], []), ([], []), ([8, 9], [8, 9]), ([10], [10]), ([0, 1, 0, 1, 4, 5, 6, 7, 11], [0, 1]), ([12, 7, 0, 1, 4, 5, 6, 7, 11], [7, 12]), ([2, 3, 0, 1, 2, 3, 4, 5, 6, 7, 8, 9, 10, 11, 12, 13], [2, 3]), ([14, 11, 13, 0, 1, 2, 3, 4, 5, 6, 7, 8, 9, 10, 11, 12, 13], [11, 14])])
def tree_sides.B11 : List Nat := [0, 0, 0, 0, 0, 0, 48, 112, 0, 0, 768, 1792, 4083, 8179, 16383, 32767]
theorem tree_sides.tab11 : rtab .any (opsOf Tryd.f41 11) = tree_sides.T11 := by kernel_rfl
theorem tree_sides.bits11 : waitsOk tree_sides.T11.2 tree_sides.B11 = true := by kernel_rfl
set_option maxHeartbeats 8000000 in
set_option maxRecDepth 100000 in
theorem tree_sides.calls (k : Nat) (a0 : Int) (a1 : Int) (r : List Bool) (w : World) (h : tree_sides.f k a0 a1 = some r) :
  Calls Tryd.prog 41 #[.int .i64 a0, .int .i64 a1] w fun e w' => ∃ v0_ : Value, e = .returned (v0_) ∧ Kd.R Kd.bool 4 w' w.heap.size (fun _ => True) v0_ r ∧ Below w.heap.size w w' := by
 have HB := Aside0.mk (Below.refl w.heap.size w)
 have H : (tree_sides.l0 k a0 a1 ([] : List Bool)) = some r := h
 clear h
 have H' := Aside0.mk H
 clear H
 go_enter Tryd.func41, Tryd.ntmps41
 go_wp2
 go_loopg [0, 1, 5] k (fun kq v0 v1 v5 w' => ∃ (x0_1 : Int) (x1_1 : Int) (x5_1 : List Bool), v0 = .int .i64 x0_1 ∧ v1 = .int .i64 x1_1 ∧ Aside0 (tree_sides.l0 kq x0_1 x1_1 x5_1 = some r) ∧ Aside0 (kq ≤ k) ∧ Aside0 (Kd.R Kd.bool 4 w' w.heap.size (fun _ => True) v5 x5_1) ∧ Aside0 (Below w.heap.size w w'))
 case atStart => exact ⟨(a0), (a1), (([] : List Bool)), (by first | rfl | (simp; done) | (simp [*]; done)), (by first | rfl | (simp; done) | (simp [*]; done)), H', ⟨Nat.le_refl _⟩, ⟨by first | exact Kd.R_nil _ _ _ _ _ | exact Kd.N_nil _ _ _ _ _ | exact Kd.V_nil _ _ _ _ _ | exact Kd.Q_nil _ _ _ _ _ | exact Kd.S_nil _ _ _ _ _⟩, ⟨by repeat (first | (with_reducible first | exact HB.out | apply below_alloc | apply pw_below_drewN | apply below_drew1) | exact HB.out)⟩⟩
 case round =>
  clear H'
  try clear p2
  obtain ⟨x0_1, x1_1, x5_1, rfl, rfl, HA, HK1, HO_5, HB⟩ := hrel
  cases gk with
  | zero => exact absurd HA.out (by simp [tree_sides.l0])
  | succ k1 =>
   have H := HA.out
   clear HA
   simp only [tree_sides.l0] at H
   by_cases c3 : x1_1 > 1
   ·rw [if_pos c3] at H
    have c3b0 : decide (1 < x1_1) = true := decide_eq_true c3
    clear c3
    replace H := Option.bind_eq_some_iff.mp H
    obtain ⟨t168, A40, H⟩ := H
    replace H : (if x5_1.length < 140737488355328 then ((some (x5_1 ++ [decide (x0_1 < t168)] : List Bool)).bind fun y169 => (if x0_1 < t168 then (tree_sides.l0 k1 x0_1 t168 y169) else (tree_sides.l0 k1 (wrap64 (x0_1 - t168)) (wrap64 (x1_1 - t168)) y169))) else (none)) = some r := H
    have A4 := Aside0.mk A40
    clear A40
    by_cases c5 : x5_1.length < 140737488355328
    ·rw [if_pos c5] at H
     have LMc5 := Aside0.mk c5
     clear c5
     obtain ⟨y169, hy169⟩ : ∃ y_ : List Bool, y_ = (x5_1 ++ [decide (x0_1 < t168)]) := ⟨_, rfl⟩
     replace H : (if x0_1 < t168 then (tree_sides.l0 k1 x0_1 t168 y169) else (tree_sides.l0 k1 (wrap64 (x0_1 - t168)) (wrap64 (x1_1 - t168)) y169)) = some r := by first | (rw [hy169]; with_reducible exact H) | (have H2_ := (Option.bind_some _ _).symm.trans H; rw [hy169]; with_reducible exact H2_) | (have H2_ := (Option.bind_some _ _).symm.trans H; with_reducible exact H2_) | with_reducible exact H | (rw [hy169]; exact H) | exact H
     have Ny169 := Aside0.mk hy169
     clear hy169
     by_cases c6 : x0_1 < t168
     ·rw [if_pos c6] at H
      have c6b0 : decide (x0_1 < t168) = true := decide_eq_true c6
      clear c6
      have H' := Aside0.mk H
      clear H
      try rw [c6b0] at Ny169
      go_wp2_with (first | ((with_reducible refine gate_callee (f := 25) rfl ?_); refine goesL_ (some 12) rfl rfl Tryd.func25 (by kernel_rfl) rfl #[.int .i64 x1_1] rfl (by (try simp only [List.map_toArray, List.map_cons, List.map_nil]); first | done | rfl | (simp only [List.length_drop, List.length_take]; rfl)) ?_; (with_reducible refine (tree_Split.calls k1 x1_1 t168 _ A4.out).mono ?_); rintro e w' ⟨rfl, ⟨nd, rfl⟩⟩; refine ⟨_, rfl, ?_⟩) | ((with_reducible refine gate_builtin (b := .append) (xs := #[.tmp 13, .tmp 17]) rfl ?_); at_builtin; refine Kd.R_append Kd.bool (w0 := w) w.heap.size rfl (.tmp 13) (.tmp 17) 62 4 (.bool false) 1 rfl Tryd.underlying62 info4 rfl (by decide) (by omega) u5 x5_1 true [.bool true] (fun _ => True) (fun _ => False) rfl rfl ?aP (fun _ hk => hk.elim) ?aF ?aO ?aB ?aS ?aL ?_; (case aP => exact rfl); (case aB => exact (by repeat (first | (with_reducible first | exact HB.out | apply below_alloc | apply pw_below_drewN | apply below_drew1) | exact HB.out))); (case aF => exact (fun _ _ => trivial)); (case aO => exact (by (with_reducible repeat (first | apply Kd.R_alloc | apply Kd.R_drewN | apply Kd.R_drew)); exact HO_5.out)); (case aS => exact (below_size (by repeat (first | (with_reducible first | exact HB.out | apply below_alloc | apply pw_below_drewN | apply below_drew1) | exact HB.out)))); (case aL => have := LMc5.out; omega); intro v170 w7 ho hb hg hat; rw [← Ny169.out] at ho; have n0_ := Aside0.mk (hb); have n1_ := Aside0.mk (ho); clear HB; clear HO_5; have HB := n0_; have HO171 := n1_; clear n0_ n1_; clear ho hb hg hat))
      go_roundg k1
      case measure => have := HK1.out; omega
      case rel => exact ⟨(x0_1), (t168), (y169), (by first | rfl | (simp; done) | (simp [*]; done)), (by first | rfl | (simp; done) | (simp [*]; done)), H', ⟨by have := HK1.out; omega⟩, ⟨by (with_reducible repeat (first | apply Kd.R_alloc | apply Kd.R_drewN | apply Kd.R_drew)); exact HO171.out⟩, ⟨by repeat (first | (with_reducible first | exact HB.out | apply below_alloc | apply pw_below_drewN | apply below_drew1) | exact HB.out)⟩⟩
     ·rw [if_neg c6] at H
      have c6b0 : decide (x0_1 < t168) = false := decide_eq_false c6
      clear c6
      have H' := Aside0.mk H
      clear H
      try rw [c6b0] at Ny169
      go_wp2_with (first | ((with_reducible refine gate_callee (f := 25) rfl ?_); refine goesL_ (some 12) rfl rfl Tryd.func25 (by kernel_rfl) rfl #[.int .i64 x1_1] rfl (by (try simp only [List.map_toArray, List.map_cons, List.map_nil]); first | done | rfl | (simp only [List.length_drop, List.length_take]; rfl)) ?_; (with_reducible refine (tree_Split.calls k1 x1_1 t168 _ A4.out).mono ?_); rintro e w' ⟨rfl, ⟨nd, rfl⟩⟩; refine ⟨_, rfl, ?_⟩) | ((with_reducible refine gate_builtin (b := .append) (xs := #[.tmp 13, .tmp 17]) rfl ?_); at_builtin; refine Kd.R_append Kd.bool (w0 := w) w.heap.size rfl (.tmp 13) (.tmp 17) 62 4 (.bool false) 1 rfl Tryd.underlying62 info4 rfl (by decide) (by omega) u5 x5_1 false [.bool false] (fun _ => True) (fun _ => False) rfl rfl ?aP (fun _ hk => hk.elim) ?aF ?aO ?aB ?aS ?aL ?_; (case aP => exact rfl); (case aB => exact (by repeat (first | (with_reducible first | exact HB.out | apply below_alloc | apply pw_below_drewN | apply below_drew1) | exact HB.out))); (case aF => exact (fun _ _ => trivial)); (case aO => exact (by (with_reducible repeat (first | apply Kd.R_alloc | apply Kd.R_drewN | apply Kd.R_drew)); exact HO_5.out)); (case aS => exact (below_size (by repeat (first | (with_reducible first | exact HB.out | apply below_alloc | apply pw_below_drewN | apply below_drew1) | exact HB.out)))); (case aL => have := LMc5.out; omega); intro v170 w8 ho hb hg hat; rw [← Ny169.out] at ho; have n0_ := Aside0.mk (hb); have n1_ := Aside0.mk (ho); clear HB; clear HO_5; have HB := n0_; have HO171 := n1_; clear n0_ n1_; clear ho hb hg hat))
      go_roundg k1
      case measure => have := HK1.out; omega
      case rel => exact ⟨(wrap64 (x0_1 - t168)), (wrap64 (x1_1 - t168)), (y169), (by first | rfl | (simp; done) | (simp [*]; done)), (by first | rfl | (simp; done) | (simp [*]; done)), H', ⟨by have := HK1.out; omega⟩, ⟨by (with_reducible repeat (first | apply Kd.R_alloc | apply Kd.R_drewN | apply Kd.R_drew)); exact HO171.out⟩, ⟨by repeat (first | (with_reducible first | exact HB.out | apply below_alloc | apply pw_below_drewN | apply below_drew1) | exact HB.out)⟩⟩
    ·rw [if_neg c5] at H
     exact absurd H (by simp)
   ·rw [if_neg c3] at H
    have c3b0 : decide (1 < x1_1) = false := decide_eq_false c3
    clear c3
    have H' := Aside0.mk H
    clear H
    obtain ⟨Ao9, co9, eo9⟩ := Kd.R_slice HO_5.out
    subst eo9
    go_wp2
    go_loopg [7, 8] k1 (fun kq v7 v8 w' => ∃ (x5_2 : List Bool) (x7_2 : Int) (x8_2 : Int), v7 = .int .i64 x7_2 ∧ v8 = .int .i64 x8_2 ∧ Aside0 (tree_sides.l1 kq x5_2 x7_2 x8_2 = some r) ∧ Aside0 (kq ≤ k1) ∧ Aside0 (Kd.R Kd.bool 4 w' w.heap.size (fun _ => True) (.slice Ao9 x5_1.length co9) x5_2) ∧ Aside0 (Below w.heap.size w w'))
    case atStart => exact ⟨(x5_1), (0), (wrap64 ((x5_1.length : Int) - 1)), (by first | rfl | (simp; done) | (simp [*]; done)), (by first | rfl | (simp; done) | (simp [*]; done)), H', ⟨Nat.le_refl _⟩, ⟨by (with_reducible repeat (first | apply Kd.R_alloc | apply Kd.R_drewN | apply Kd.R_drew)); exact HO_5.out⟩, ⟨by repeat (first | (with_reducible first | exact HB.out | apply below_alloc | apply pw_below_drewN | apply below_drew1) | exact HB.out)⟩⟩
    case round =>
     clear H'
     try clear c2
     try clear p2
     try clear c3
     try clear c3b0
     try clear c4
     try clear c5
     try clear c6
     try clear c6b0
     try clear p6
     try clear p2
     obtain ⟨x5_2, x7_2, x8_2, rfl, rfl, HA, HK2, HO_5, HB⟩ := hrel
     have hl5_2 := (Kd.R_reads' HO_5.out).1
     rw [hl5_2] at HO_5
     (try simp only [hl5_2])
     cases gk with
     | zero => exact absurd HA.out (by simp [tree_sides.l1])
     | succ k2 =>
      have H := HA.out
      clear HA
      simp only [tree_sides.l1] at H
      by_cases c10 : x7_2 < x8_2
      ·rw [if_pos c10] at H
       have c10b0 : decide (x7_2 < x8_2) = true := decide_eq_true c10
       clear c10
       by_cases c11 : 0 ≤ x8_2
       ·rw [if_pos c11] at H
        have c11b0 : decide (0 ≤ x8_2) = true := decide_eq_true c11
        clear c11
        by_cases c12 : x8_2 < (x5_2.length : Int)
        ·rw [if_pos c12] at H
         have c12b0 : decide (x8_2 < (x5_2.length : Int)) = true := decide_eq_true c12
         clear c12
         by_cases c13 : 0 ≤ x7_2
         ·rw [if_pos c13] at H
          have c13b0 : decide (0 ≤ x7_2) = true := decide_eq_true c13
          clear c13
          by_cases c14 : x7_2 < (x5_2.length : Int)
          ·rw [if_pos c14] at H
           have c14b0 : decide (x7_2 < (x5_2.length : Int)) = true := decide_eq_true c14
           clear c14
           obtain ⟨y174, hy174⟩ : ∃ y_ : List Bool, y_ = (x5_2.set (x7_2 : Int).toNat (rdOf false x5_2 x8_2)) := ⟨_, rfl⟩
           replace H : (tree_sides.l1 k2 (y174.set (x8_2 : Int).toNat (rdOf false x5_2 x7_2)) (wrap64 (x7_2 + 1)) (wrap64 (x8_2 - 1))) = some r := by first | (rw [hy174]; with_reducible exact H) | (have H2_ := (Option.bind_some _ _).symm.trans H; rw [hy174]; with_reducible exact H2_) | (have H2_ := (Option.bind_some _ _).symm.trans H; with_reducible exact H2_) | with_reducible exact H | (rw [hy174]; exact H) | exact H
           have Ny174 := Aside0.mk hy174
           clear hy174
           obtain ⟨y175, hy175⟩ : ∃ y_ : List Bool, y_ = (y174.set (x8_2 : Int).toNat (rdOf false x5_2 x7_2)) := ⟨_, rfl⟩
           replace H : (tree_sides.l1 k2 y175 (wrap64 (x7_2 + 1)) (wrap64 (x8_2 - 1))) = some r := by first | (rw [hy175]; with_reducible exact H) | (have H2_ := (Option.bind_some _ _).symm.trans H; rw [hy175]; with_reducible exact H2_) | (have H2_ := (Option.bind_some _ _).symm.trans H; with_reducible exact H2_) | with_reducible exact H | (rw [hy175]; exact H) | exact H
           have Ny175 := Aside0.mk hy175
           clear hy175
           have H' := Aside0.mk H
           clear H
           try go_wp2
           have n0_ := Aside0.mk (Kd.R_drew HO_5.out)
           have n1_ := Aside0.mk (below_drew1 HB.out)
           clear HO_5
           clear HB
           have HO_5 := n0_
           have HB := n1_
           clear n0_ n1_
           have p172 : 0 ≤ (x8_2 : Int) := of_decide_eq_true (by first | (with_reducible assumption) | assumption)
           have q172 : x8_2 < (x5_2.length : Int) := of_decide_eq_true (by first | (with_reducible assumption) | assumption)
           obtain ⟨ad172, e172, hx172_0⟩ := Kd.at_bool (Kd.R_reads' HO_5.out).2.2 x8_2 p172 q172
           cases e172
           replace p172 := eq_true p172
           replace q172 := eq_true q172
           have p173 : 0 ≤ (x7_2 : Int) := of_decide_eq_true (by first | (with_reducible assumption) | assumption)
           have q173 : x7_2 < (x5_2.length : Int) := of_decide_eq_true (by first | (with_reducible assumption) | assumption)
           obtain ⟨ad173, e173, hx173_0⟩ := Kd.at_bool (Kd.R_reads' HO_5.out).2.2 x7_2 p173 q173
           obtain rfl : ad172 = ad173 := (by injection e173)
           replace p173 := eq_true p173
           replace q173 := eq_true q173
           have p15 : 0 ≤ (x7_2 : Int) := of_decide_eq_true (by first | (with_reducible assumption) | assumption)
           have q15 : (x7_2 : Int) < ((x5_2.length : Int) : Int) := of_decide_eq_true (by first | (with_reducible assumption) | assumption)
           obtain ⟨go15, co15, eo15, gb15, gl15, cl15, HG15⟩ := Kd.R_form HO_5.out (by omega)
           (first | cases eo15 | (injection eo15 with ea_ en_ ec_; (first | subst ea_ | (injection ea_ with ea_; subst ea_)); subst ec_; clear en_))
           have GB15 := Aside0.mk gb15
           have GG15 := Aside0.mk HG15
           clear gb15 gl15 HG15
           (first | simp only [add_plain] at hx172_0 | skip)
           (first | simp only [add_plain] at hx173_0 | skip)
           obtain ⟨hx15_0, hf15_0⟩ := Kd.R_celln false HO_5.out (x7_2 : Int) p15 q15
           replace p15 := eq_true p15
           replace q15 := eq_true q15
           have HP18 := Kd.R_putn HO_5.out (x7_2 : Int) (rdOf false x5_2 x8_2)
           rw [← Ny174.out] at HP18
           have HQ18 := Aside0.mk HP18
           clear HP18
           have p16 : 0 ≤ (x8_2 : Int) := of_decide_eq_true (by first | (with_reducible assumption) | assumption)
           have q16 : (x8_2 : Int) < ((x5_2.length : Int) : Int) := of_decide_eq_true (by first | (with_reducible assumption) | assumption)
           obtain ⟨hx16_0, hf16_0⟩ := Kd.R_celln false HQ18.out (x8_2 : Int) p16 q16
           replace p16 := eq_true p16
           replace q16 := eq_true q16
           have HP19 := Kd.R_putn HQ18.out (x8_2 : Int) (rdOf false x5_2 x7_2)
           rw [← Ny175.out] at HP19
           have HQ19 := Aside0.mk HP19
           clear HP19
           refine start_ (n := 16) (S := fun w' => w'.cell? ⟨go15, (x8_2).toNat, none⟩ = some (.bool (rdOf false x5_2 x8_2)) ∧ w'.cell? ⟨go15, (x7_2).toNat, none⟩ = some (.bool (rdOf false x5_2 x7_2))) (ds := [13, 15]) #[false, false, false, false, false, false, false, false, false, false, false, false, false, false, false, false] (by kernel_rfl) rfl rfl ⟨hx172_0, hx173_0⟩ (fun hHeld => ?_); refine with_tabW tree_sides.tab11 tree_sides.bits11 (fun HT_ HW_ => ?_)
           generalize wr.drew = w17 at HO_5 HB GG15 HQ18 HQ19 hf15_0 hf16_0 hx15_0 hx16_0 hx172_0 hx173_0 hHeld ⊢
           refine HBulk.bulkT (fuel := 3) HT_.out HW_.out [(0, some 39, false), (1, some 40, false), (2, some 41, false), (3, some 42, false), (4, some 43, false), (5, some 44, false), (6, some 45, false), (8, some 47, false), (9, some 48, false), (10, some 49, false), (7, some 46, true), (11, some 50, true), (12, some 51, false)] #[true, true, true, true, true, true, true, true, true, true, true, true, true, false, false, false] (a' := ?_) (by kernel_rfl) rfl hHeld ?_ ?_
           rotate_left
           ·repeat
             refine HBulk.RunsM.cons (v := ?_) (a1 := ?_) rfl rfl (fun _ _ _ h => h) (by rfl) ?_ ?_ ?_
             rotate_left
             ·intro w' hS_; (try (obtain ⟨s0, s1⟩ := hS_ rfl))
              go_simp
              with_reducible rfl
             rotate_left
             ·simp only [Act.put, List.setIfInBounds_toArray, List.set_cons_zero, List.set_cons_succ, i64_w, i32_w]
              rfl
            exact HBulk.RunsM.nil
           refine last_ (i := 13) (N := none) #[true, true, true, true, true, true, true, true, true, true, true, true, true, true, false, false] rfl rfl (one_of HT_.out (by kernel_rfl)) (by decide) (fun K hK => ?_)
           refine skip_ (w1 := ?_) (by rfl) rfl ?_ ?_
           rotate_left
           ·go_simp
            rfl
           refine hK.out _ _ ?_
           clear hK K
           refine pure_ (i := 14) (N := some 52) (v := ?_) (a' := ?_) #[true, true, true, true, true, true, true, true, true, true, true, true, true, true, true, false] rfl rfl (any_of HT_.out (by kernel_rfl)) (fun _ _ _ h => h) (Or.inl ⟨by rfl, ?_⟩) ?_ ?_
           rotate_left
           ·intro w'
            go_simp
            with_reducible rfl
           rotate_left
           ·simp only [Act.put, List.setIfInBounds_toArray, List.set_cons_zero, List.set_cons_succ, i64_w, i32_w]
            rfl
           refine last_ (i := 15) (N := none) #[true, true, true, true, true, true, true, true, true, true, true, true, true, true, true, true] rfl rfl (one_of HT_.out (by kernel_rfl)) (by decide) (fun K hK => ?_)
           refine skip_ (w1 := ?_) (by rfl) rfl ?_ ?_
           rotate_left
           ·go_simp
            rfl
           refine hK.out _ _ ?_
           clear hK K
           refine done_ (done_of HT_.out (by kernel_rfl)) ?_
           try go_wp2
           (try simp only [← hl5_2])
           go_roundg k2
           case measure => have := HK1.out; have := HK2.out; omega
           case rel => exact ⟨(y175), (wrap64 (x7_2 + 1)), (wrap64 (x8_2 - 1)), (by first | rfl | (simp; done) | (simp [*]; done)), (by first | rfl | (simp; done) | (simp [*]; done)), H', ⟨by have := HK1.out; have := HK2.out; omega⟩, ⟨by (try simp only [hl5_2]); (with_reducible repeat (first | apply Kd.R_alloc | apply Kd.R_drewN | apply Kd.R_drew)); exact HQ19.out⟩, ⟨by repeat (first | (with_reducible first | exact HB.out | apply below_alloc | apply pw_below_drewN | apply below_drew1 | refine below_set ?_ GB15.out | refine below_set ?_ GB15.out) | exact HB.out)⟩⟩
          ·rw [if_neg c14] at H
           exact absurd H (by simp)
         ·rw [if_neg c13] at H
          exact absurd H (by simp)
        ·rw [if_neg c12] at H
         exact absurd H (by simp)
       ·rw [if_neg c11] at H
        exact absurd H (by simp)
      ·rw [if_neg c10] at H
       have c10b0 : decide (x7_2 < x8_2) = false := decide_eq_false c10
       clear c10
       obtain rfl := Option.some.inj H
       go_wp2
       go_ret
       exact ⟨_, by first | rfl | (simp [errW_none, errW_some] <;> rfl) | (simp [*, errW_none, errW_some] <;> rfl), by (with_reducible repeat (first | apply Kd.R_alloc | apply Kd.R_drewN | apply Kd.R_drew)); exact HO_5.out, by repeat (first | (with_reducible first | exact HB.out | apply below_alloc | apply pw_below_drewN | apply below_drew1) | exact HB.out)⟩
/-! ### tree_Climb: function 17 -/
mutual
def tree_Climb.j0 : Nat → ByteArray → Int → Int → List ByteArray → Bool → Option (ByteArray × Int)
 | 0, _, _, _, _, _ => none
 | k + 1, x0, x1, x2, x3, x32 => if x32 = true then (some ((⟨#[]⟩ : ByteArray), 1)) else ((tree_sides.f k x1 x2).bind fun t176 => (if (t176.length : Int) = (x3.length : Int) then ((tree_all.f k x3).bind fun t179 => (tree_Climb.j1 k x0 x3 t176 (!t179))) else (tree_Climb.j1 k x0 x3 t176 true)))
def tree_Climb.j1 : Nat → ByteArray → List ByteArray → List Bool → Bool → Option (ByteArray × Int)
 | 0, _, _, _, _ => none
 | k + 1, x0, x3, x10, x45 => if x45 = true then (some ((⟨#[]⟩ : ByteArray), 6)) else (tree_Climb.l0 k x0 x3 x10 (x10.length : Int) 0)
def tree_Climb.l0 : Nat → ByteArray → List ByteArray → List Bool → Int → Int → Option (ByteArray × Int)
 | 0, _, _, _, _, _ => none
 | k + 1, x0, x3, x46, x47, x48 => if x48 < x47 then (if 0 ≤ x48 then (if x48 < (x46.length : Int) then (if rdOf false x46 x48 = true then (if x48 < (x3.length : Int) then ((tree_node.f k x0 (rdOf ByteArray.empty x3 x48)).bind fun t182 => (tree_Climb.l0 k t182 x3 x46 x47 (wrap64 (x48 + 1)))) else (none)) else (if x48 < (x3.length : Int) then ((tree_node.f k (rdOf ByteArray.empty x3 x48) x0).bind fun t184 => (tree_Climb.l0 k t184 x3 x46 x47 (wrap64 (x48 + 1)))) else (none))) else (none)) else (none)) else (some (x0, 0))
end
def tree_Climb.f (k : Nat) (a0 : ByteArray) (a1 : Int) (a2 : Int) (l3 : List ByteArray) : Option (ByteArray × Int) := if (a0.size : Int) = 32 then (if a2 < 1 then (tree_Climb.j0 k a0 a1 a2 l3 true) else (if a2 > 1099511627776 then (tree_Climb.j0 k a0 a1 a2 l3 true) else (if a1 < 0 then (tree_Climb.j0 k a0 a1 a2 l3 true) else (tree_Climb.j0 k a0 a1 a2 l3 (decide (a1 ≥ a2)))))) else (tree_Climb.j0 k a0 a1 a2 l3 true)
theorem tree_Climb.mono_l : ∀ k, (∀ y0 y1 y2 y3 y4, LeO (tree_Climb.j0 k y0 y1 y2 y3 y4) (tree_Climb.j0 (k + 1) y0 y1 y2 y3 y4)) ∧ (∀ y0 y1 y2 y3, LeO (tree_Climb.j1 k y0 y1 y2 y3) (tree_Climb.j1 (k + 1) y0 y1 y2 y3)) ∧ (∀ y0 y1 y2 y3 y4, LeO (tree_Climb.l0 k y0 y1 y2 y3 y4) (tree_Climb.l0 (k + 1) y0 y1 y2 y3 y4))
 | 0 => ⟨fun _ _ _ _ _ r h => by simp [tree_Climb.j0] at h, fun _ _ _ _ r h => by simp [tree_Climb.j1] at h, fun _ _ _ _ _ r h => by simp [tree_Climb.l0] at h⟩
 | k + 1 => by
  obtain ⟨ih0, ih1, ih2⟩ := tree_Climb.mono_l k
  refine ⟨?_, ?_, ?_⟩
  ·intro y0 y1 y2 y3 y4
   unfold tree_Climb.j0
   repeat' first
   | (with_reducible exact ih0 _ _ _ _ _)
   | (with_reducible exact ih1 _ _ _ _)
   | (with_reducible exact ih2 _ _ _ _ _)
   | (with_reducible exact tree_all.mono _ _)
   | (with_reducible exact tree_node.mono _ _ _)
   | (with_reducible exact tree_sides.mono _ _ _)
   | (with_reducible exact LeO.refl _)
   | (with_reducible exact LeO.none _)
   | (with_reducible refine LeO.ite ?_ ?_)
   | (with_reducible refine LeO.bind ?_ (fun _ => ?_))
  ·intro y0 y1 y2 y3
   unfold tree_Climb.j1
   repeat' first
   | (with_reducible exact ih0 _ _ _ _ _)
   | (with_reducible exact ih1 _ _ _ _)
   | (with_reducible exact ih2 _ _ _ _ _)
   | (with_reducible exact tree_all.mono _ _)
   | (with_reducible exact tree_node.mono _ _ _)
   | (with_reducible exact tree_sides.mono _ _ _)
   | (with_reducible exact LeO.refl _)
   | (with_reducible exact LeO.none _)
   | (with_reducible refine LeO.ite ?_ ?_)
   | (with_reducible refine LeO.bind ?_ (fun _ => ?_))
  ·intro y0 y1 y2 y3 y4
   unfold tree_Climb.l0
   repeat' first
   | (with_reducible exact ih0 _ _ _ _ _)
   | (with_reducible exact ih1 _ _ _ _)
   | (with_reducible exact ih2 _ _ _ _ _)
   | (with_reducible exact tree_all.mono _ _)
   | (with_reducible exact tree_node.mono _ _ _)
   | (with_reducible exact tree_sides.mono _ _ _)
   | (with_reducible exact LeO.refl _)
   | (with_reducible exact LeO.none _)
   | (with_reducible refine LeO.ite ?_ ?_)
   | (with_reducible refine LeO.bind ?_ (fun _ => ?_))
theorem tree_Climb.mono : ∀ a0 a1 a2 a3 k, LeO (tree_Climb.f k a0 a1 a2 a3) (tree_Climb.f (k + 1) a0 a1 a2 a3) := by
 intro a0 a1 a2 a3 k
 obtain ⟨ih0, ih1, ih2⟩ := tree_Climb.mono_l k
 unfold tree_Climb.f
 repeat' first
   | (with_reducible exact ih0 _ _ _ _ _)
   | (with_reducible exact ih1 _ _ _ _)
   | (with_reducible exact ih2 _ _ _ _ _)
   | (with_reducible exact tree_all.mono _ _)
   | (with_reducible exact tree_node.mono _ _ _)
   | (with_reducible exact tree_sides.mono _ _ _)
   | (with_reducible exact LeO.refl _)
   | (with_reducible exact LeO.none _)
   | (with_reducible refine LeO.ite ?_ ?_)
   | (with_reducible refine LeO.bind ?_ (fun _ => ?_))
set_option maxHeartbeats 8000000 in
set_option maxRecDepth 100000 in
theorem tree_Climb.calls (k : Nat) (a0 : ByteArray) (a1 : Int) (a2 : Int) (A3 : Option Addr) (c3 : Nat) (l3 : List ByteArray) (r1 : ByteArray) (r2 : Int) (w : World) (hG_ : Aside0 (GW w)) (hr3 : Kd.C Kd.string w A3 l3.length l3) (hc3 : l3.length ≤ c3) (h : tree_Climb.f k a0 a1 a2 l3 = some (r1, r2)) :
  Calls Tryd.prog 17 #[.string a0, .int .i64 a1, .int .i64 a2, .slice A3 l3.length c3] w fun e w' => e = .returned (.tuple #[.string r1, .int .i64 r2]) ∧ Below w.heap.size w w' := by
 have HR3 := Aside0.mk hr3
 have HC3 := Aside0.mk hc3
 clear hr3 hc3
 have HB := Aside0.mk (Below.refl w.heap.size w)
 have H : (if (a0.size : Int) = 32 then (if a2 < 1 then (tree_Climb.j0 k a0 a1 a2 l3 true) else (if a2 > 1099511627776 then (tree_Climb.j0 k a0 a1 a2 l3 true) else (if a1 < 0 then (tree_Climb.j0 k a0 a1 a2 l3 true) else (tree_Climb.j0 k a0 a1 a2 l3 (decide (a1 ≥ a2)))))) else (tree_Climb.j0 k a0 a1 a2 l3 true)) = some (r1, r2) := h
 clear h
 have HC5 := Aside0.mk H
 clear H
 go_enter Tryd.func17, Tryd.ntmps17
 go_upto_region 1 with (fail)
 go_cut [32] (fun v32 wc => ∃ (kq : Nat) (x32_4 : Bool), v32 = .bool x32_4 ∧ Aside0 (tree_Climb.j0 kq a0 a1 a2 l3 x32_4 = some (r1, r2)) ∧ Aside0 (kq ≤ k) ∧ Aside0 (Below w.heap.size w wc))
 case first =>
  have H := HC5.out
  clear HC5
  by_cases c6 : (a0.size : Int) = 32
  ·rw [if_pos c6] at H
   have c6b0 : ((a0.size : Int) == 32) = true := beq_iff_eq.mpr c6
   have c6b1 : ((a0.size : Int) != 32) = false := bne_eq_false_iff_eq.mpr c6
   clear c6
   (first | rw [c6b0] | (simp only [i64_w, i32_w]; rw [c6b0]) | skip)
   by_cases c7 : a2 < 1
   ·rw [if_pos c7] at H
    have c7b0 : decide (a2 < 1) = true := decide_eq_true c7
    clear c7
    have H' := Aside0.mk H
    clear H
    go_wp2
    go_meet
    case rel => exact ⟨_, (true), (by first | rfl | (simp; done) | (simp [*]; done)), H', ⟨by first | omega | exact Nat.le_refl _⟩, ⟨by repeat (first | (with_reducible first | exact HB.out | apply below_alloc | apply pw_below_drewN | apply below_drew1) | exact HB.out)⟩⟩
   ·rw [if_neg c7] at H
    have c7b0 : decide (a2 < 1) = false := decide_eq_false c7
    clear c7
    by_cases c8 : a2 > 1099511627776
    ·rw [if_pos c8] at H
     have c8b0 : decide (1099511627776 < a2) = true := decide_eq_true c8
     clear c8
     have H' := Aside0.mk H
     clear H
     go_wp2
     go_meet
     case rel => exact ⟨_, (true), (by first | rfl | (simp; done) | (simp [*]; done)), H', ⟨by first | omega | exact Nat.le_refl _⟩, ⟨by repeat (first | (with_reducible first | exact HB.out | apply below_alloc | apply pw_below_drewN | apply below_drew1) | exact HB.out)⟩⟩
    ·rw [if_neg c8] at H
     have c8b0 : decide (1099511627776 < a2) = false := decide_eq_false c8
     clear c8
     by_cases c9 : a1 < 0
     ·rw [if_pos c9] at H
      have c9b0 : decide (a1 < 0) = true := decide_eq_true c9
      clear c9
      have H' := Aside0.mk H
      clear H
      go_wp2
      go_meet
      case rel => exact ⟨_, (true), (by first | rfl | (simp; done) | (simp [*]; done)), H', ⟨by first | omega | exact Nat.le_refl _⟩, ⟨by repeat (first | (with_reducible first | exact HB.out | apply below_alloc | apply pw_below_drewN | apply below_drew1) | exact HB.out)⟩⟩
     ·rw [if_neg c9] at H
      have c9b0 : decide (a1 < 0) = false := decide_eq_false c9
      clear c9
      have H' := Aside0.mk H
      clear H
      go_wp2
      go_meet
      case rel => exact ⟨_, (decide (a1 ≥ a2)), (by first | rfl | (simp; done) | (simp [*]; done)), H', ⟨by first | omega | exact Nat.le_refl _⟩, ⟨by repeat (first | (with_reducible first | exact HB.out | apply below_alloc | apply pw_below_drewN | apply below_drew1) | exact HB.out)⟩⟩
  ·rw [if_neg c6] at H
   have c6b0 : ((a0.size : Int) == 32) = false := beq_eq_false_iff_ne.mpr c6
   have c6b1 : ((a0.size : Int) != 32) = true := bne_iff_ne.mpr c6
   (first | rw [c6b0] | (simp only [i64_w, i32_w]; rw [c6b0]) | skip)
   have H' := Aside0.mk H
   clear H
   go_wp2
   go_meet
   case rel => exact ⟨_, (true), (by first | rfl | (simp; done) | (simp [*]; done)), H', ⟨by first | omega | exact Nat.le_refl _⟩, ⟨by repeat (first | (with_reducible first | exact HB.out | apply below_alloc | apply pw_below_drewN | apply below_drew1) | exact HB.out)⟩⟩
 case rest =>
  clear HC5
  try clear c1
  try clear p2
  try clear c3
  try clear c6
  try clear c6b0
  try clear c6b1
  try clear c7
  try clear c7b0
  try clear c8
  try clear c8b0
  try clear c9
  try clear c9b0
  obtain ⟨kq, x32_4, rfl, HA, HJ4, HB⟩ := hcut
  cases kq with
  | zero => exact absurd HA.out (by simp [tree_Climb.j0])
  | succ kj4 =>
   have H := HA.out
   clear HA
   simp only [tree_Climb.j0] at H
   by_cases c10 : x32_4 = true
   ·subst c10
    have H1 : (some ((⟨#[]⟩ : ByteArray), 1)) = some (r1, r2) := by rw [if_pos rfl] at H; exact H
    clear H
    have H := H1
    clear H1
    simp only [Option.some.injEq, Prod.mk.injEq] at H
    obtain ⟨rfl, rfl⟩ := H
    go_wp2
    go_ret2
    exact ⟨by first | rfl | (simp [errW_none, errW_some] <;> rfl) | (simp [*, errW_none, errW_some] <;> rfl), by repeat (first | (with_reducible first | exact HB.out | apply below_alloc | apply pw_below_drewN | apply below_drew1) | exact HB.out)⟩
   ·replace c10 := Bool.eq_false_iff.mpr c10
    subst c10
    have H1 : ((tree_sides.f kj4 a1 a2).bind fun t176 => (if (t176.length : Int) = (l3.length : Int) then ((tree_all.f kj4 l3).bind fun t179 => (tree_Climb.j1 kj4 a0 l3 t176 (!t179))) else (tree_Climb.j1 kj4 a0 l3 t176 true))) = some (r1, r2) := by rw [if_neg (show ¬ (false = true) by decide)] at H; exact H
    clear H
    have H := H1
    clear H1
    replace H := Option.bind_eq_some_iff.mp H
    obtain ⟨t176, A110, H⟩ := H
    replace H : (if (t176.length : Int) = (l3.length : Int) then ((tree_all.f kj4 l3).bind fun t179 => (tree_Climb.j1 kj4 a0 l3 t176 (!t179))) else (tree_Climb.j1 kj4 a0 l3 t176 true)) = some (r1, r2) := H
    have A11 := Aside0.mk A110
    clear A110
    have HC12 := Aside0.mk H
    clear H
    go_upto_region 4 with (first | ((with_reducible refine gate_callee (f := 41) rfl ?_); refine goesL_ (some 35) rfl rfl Tryd.func41 (by kernel_rfl) rfl #[.int .i64 a1, .int .i64 a2] rfl (by (try simp only [List.map_toArray, List.map_cons, List.map_nil]); first | done | rfl | (simp only [List.length_drop, List.length_take]; rfl)) ?_; (with_reducible refine (tree_sides.calls kj4 a1 a2 t176 _ A11.out).mono ?_); rintro e w13 ⟨v177, rfl, ho0, hb⟩; refine ⟨_, rfl, ?_⟩; have n0_ := Aside0.mk (Kd.R_lower ho0 (below_size (by repeat (first | (with_reducible first | exact HB.out | apply below_alloc | apply pw_below_drewN | apply below_drew1) | exact HB.out)))); have n1_ := Aside0.mk (below_step (by repeat (first | (with_reducible first | exact HB.out | apply below_alloc | apply pw_below_drewN | apply below_drew1) | exact HB.out)) hb); clear HB; have HO178 := n0_; have HB := n1_; clear n0_ n1_; (try clear hb); (try clear hb2); (try clear hk); (try clear hi); (try clear ho0)))
    (try simp only [Act.put, List.setIfInBounds_toArray, List.set_cons_zero, List.set_cons_succ])
    go_cut [45] (fun v45 wc => ∃ (kq : Nat) (x45_11 : Bool), v45 = .bool x45_11 ∧ Aside0 (tree_Climb.j1 kq a0 l3 t176 x45_11 = some (r1, r2)) ∧ Aside0 (kq ≤ kj4) ∧ Aside0 (Kd.R Kd.bool 4 wc w.heap.size (fun _ => True) v177 t176) ∧ Aside0 (Below w.heap.size w wc))
    case first =>
     have H := HC12.out
     clear HC12
     by_cases c14 : (t176.length : Int) = (l3.length : Int)
     ·rw [if_pos c14] at H
      have c14b0 : ((t176.length : Int) == (l3.length : Int)) = true := beq_iff_eq.mpr c14
      have c14b1 : ((t176.length : Int) != (l3.length : Int)) = false := bne_eq_false_iff_eq.mpr c14
      have c14b2 : (t176.length == l3.length) = true := by first | simpa using c14 | (simp at c14 ⊢; omega)
      clear c14
      (first | rw [c14b0] | (simp only [i64_w, i32_w]; rw [c14b0]) | skip)
      replace H := Option.bind_eq_some_iff.mp H
      obtain ⟨t179, A150, H⟩ := H
      replace H : (tree_Climb.j1 kj4 a0 l3 t176 (!t179)) = some (r1, r2) := H
      have A15 := Aside0.mk A150
      clear A150
      have H' := Aside0.mk H
      clear H
      obtain ⟨Ao16, co16, eo16⟩ := Kd.R_slice HO178.out
      subst eo16
      go_wp2_with (first | (go_at_call 39; (with_reducible refine (tree_all.calls kj4 _ _ l3 t179 _ ?side1 ?side2 A15.out).mono ?_); (case side1 => repeat (first | exact (Kd.C_below HR3.out HB.out) | (with_reducible refine Kd.C_alloc ?_ _) | (with_reducible refine Kd.C_drewN ?_ _) | (with_reducible refine Kd.C_drew ?_))); (case side2 => exact HC3.out); rintro e w' ⟨rfl, ⟨nd, rfl⟩⟩))
      go_meet
      case rel => exact ⟨_, (!t179), (by first | rfl | (simp; done) | (simp [*]; done)), H', ⟨by have := HJ4.out; first | omega | exact Nat.le_refl _⟩, ⟨by (with_reducible repeat (first | apply Kd.R_alloc | apply Kd.R_drewN | apply Kd.R_drew)); exact HO178.out⟩, ⟨by repeat (first | (with_reducible first | exact HB.out | apply below_alloc | apply pw_below_drewN | apply below_drew1) | exact HB.out)⟩⟩
     ·rw [if_neg c14] at H
      have c14b0 : ((t176.length : Int) == (l3.length : Int)) = false := beq_eq_false_iff_ne.mpr c14
      have c14b1 : ((t176.length : Int) != (l3.length : Int)) = true := bne_iff_ne.mpr c14
      have c14b2 : (t176.length == l3.length) = false := by first | simpa using c14 | (simp at c14 ⊢; omega)
      (first | rw [c14b0] | (simp only [i64_w, i32_w]; rw [c14b0]) | skip)
      have H' := Aside0.mk H
      clear H
      obtain ⟨Ao17, co17, eo17⟩ := Kd.R_slice HO178.out
      subst eo17
      go_wp2
      go_meet
      case rel => exact ⟨_, (true), (by first | rfl | (simp; done) | (simp [*]; done)), H', ⟨by have := HJ4.out; first | omega | exact Nat.le_refl _⟩, ⟨by (with_reducible repeat (first | apply Kd.R_alloc | apply Kd.R_drewN | apply Kd.R_drew)); exact HO178.out⟩, ⟨by repeat (first | (with_reducible first | exact HB.out | apply below_alloc | apply pw_below_drewN | apply below_drew1) | exact HB.out)⟩⟩
    case rest =>
     clear HC12
     try clear c1
     try clear p2
     try clear c3
     try clear c4
     try clear c6
     try clear c6b0
     try clear c6b1
     try clear c7
     try clear c7b0
     try clear c8
     try clear c8b0
     try clear c9
     try clear c9b0
     try clear c10
     try clear c14
     try clear c14b0
     try clear c14b1
     try clear c14b2
     try clear c17
     try clear p2
     obtain ⟨kq, x45_11, rfl, HA, HJ11, HO_10, HB⟩ := hcut
     cases kq with
     | zero => exact absurd HA.out (by simp [tree_Climb.j1])
     | succ kj11 =>
      have H := HA.out
      clear HA
      simp only [tree_Climb.j1] at H
      by_cases c18 : x45_11 = true
      ·subst c18
       have H1 : (some ((⟨#[]⟩ : ByteArray), 6)) = some (r1, r2) := by rw [if_pos rfl] at H; exact H
       clear H
       have H := H1
       clear H1
       simp only [Option.some.injEq, Prod.mk.injEq] at H
       obtain ⟨rfl, rfl⟩ := H
       go_wp2
       go_ret2
       exact ⟨by first | rfl | (simp [errW_none, errW_some] <;> rfl) | (simp [*, errW_none, errW_some] <;> rfl), by repeat (first | (with_reducible first | exact HB.out | apply below_alloc | apply pw_below_drewN | apply below_drew1) | exact HB.out)⟩
      ·replace c18 := Bool.eq_false_iff.mpr c18
       subst c18
       have H1 : (tree_Climb.l0 kj11 a0 l3 t176 (t176.length : Int) 0) = some (r1, r2) := by rw [if_neg (show ¬ (false = true) by decide)] at H; exact H
       clear H
       have H := H1
       clear H1
       have H' := Aside0.mk H
       clear H
       obtain ⟨Ao19, co19, eo19⟩ := Kd.R_slice HO_10.out
       subst eo19
       go_wp2
       go_loopg [0, 48] kj11 (fun kq v0 v48 w' => ∃ (x0_3 : ByteArray) (x48_3 : Int), v0 = .string x0_3 ∧ v48 = .int .i64 x48_3 ∧ Aside0 (tree_Climb.l0 kq x0_3 l3 t176 (t176.length : Int) x48_3 = some (r1, r2)) ∧ Aside0 (kq ≤ kj11) ∧ Aside0 (Kd.R Kd.bool 4 w' w.heap.size (fun _ => True) (.slice Ao19 t176.length co19) t176) ∧ Aside0 (Below w.heap.size w w'))
       case atStart => exact ⟨(a0), (0), (by first | rfl | (simp; done) | (simp [*]; done)), (by first | rfl | (simp; done) | (simp [*]; done)), H', ⟨Nat.le_refl _⟩, ⟨by (with_reducible repeat (first | apply Kd.R_alloc | apply Kd.R_drewN | apply Kd.R_drew)); exact HO_10.out⟩, ⟨by repeat (first | (with_reducible first | exact HB.out | apply below_alloc | apply pw_below_drewN | apply below_drew1) | exact HB.out)⟩⟩
       case round =>
        clear H'
        try clear c1
        try clear p2
        try clear c3
        try clear c4
        try clear c6
        try clear c6b0
        try clear c6b1
        try clear c7
        try clear c7b0
        try clear c8
        try clear c8b0
        try clear c9
        try clear c9b0
        try clear c10
        try clear c14
        try clear c14b0
        try clear c14b1
        try clear c14b2
        try clear c17
        try clear c18
        try clear p2
        obtain ⟨x0_3, x48_3, rfl, rfl, HA, HK3, HO_46, HB⟩ := hrel
        cases gk with
        | zero => exact absurd HA.out (by simp [tree_Climb.l0])
        | succ k3 =>
         have H := HA.out
         clear HA
         simp only [tree_Climb.l0] at H
         by_cases c20 : x48_3 < (t176.length : Int)
         ·rw [if_pos c20] at H
          have c20b0 : decide (x48_3 < (t176.length : Int)) = true := decide_eq_true c20
          clear c20
          by_cases c21 : 0 ≤ x48_3
          ·rw [if_pos c21] at H
           have c21b0 : decide (0 ≤ x48_3) = true := decide_eq_true c21
           clear c21
           by_cases c22 : x48_3 < (t176.length : Int)
           ·rw [if_pos c22] at H
            have c22b0 : decide (x48_3 < (t176.length : Int)) = true := decide_eq_true c22
            clear c22
            obtain ⟨bq23, hbq23⟩ : ∃ b_ : Bool, b_ = (rdOf false t176 x48_3) := ⟨_, rfl⟩
            replace H : (if bq23 = true then (if x48_3 < (l3.length : Int) then ((tree_node.f k3 x0_3 (rdOf ByteArray.empty l3 x48_3)).bind fun t182 => (tree_Climb.l0 k3 t182 l3 t176 (t176.length : Int) (wrap64 (x48_3 + 1)))) else (none)) else (if x48_3 < (l3.length : Int) then ((tree_node.f k3 (rdOf ByteArray.empty l3 x48_3) x0_3).bind fun t184 => (tree_Climb.l0 k3 t184 l3 t176 (t176.length : Int) (wrap64 (x48_3 + 1)))) else (none))) = some (r1, r2) := by rw [← hbq23] at H; exact H
            have Nbq23 := Aside0.mk hbq23
            clear hbq23
            by_cases c24 : bq23 = true
            ·subst c24
             have H1 : (if x48_3 < (l3.length : Int) then ((tree_node.f k3 x0_3 (rdOf ByteArray.empty l3 x48_3)).bind fun t182 => (tree_Climb.l0 k3 t182 l3 t176 (t176.length : Int) (wrap64 (x48_3 + 1)))) else (none)) = some (r1, r2) := by rw [if_pos rfl] at H; exact H
             clear H
             have H := H1
             clear H1
             by_cases c25 : x48_3 < (l3.length : Int)
             ·rw [if_pos c25] at H
              have c25b0 : decide (x48_3 < (l3.length : Int)) = true := decide_eq_true c25
              clear c25
              replace H := Option.bind_eq_some_iff.mp H
              obtain ⟨t182, A260, H⟩ := H
              replace H : (tree_Climb.l0 k3 t182 l3 t176 (t176.length : Int) (wrap64 (x48_3 + 1))) = some (r1, r2) := H
              have A26 := Aside0.mk A260
              clear A260
              have H' := Aside0.mk H
              clear H
              have p180 : 0 ≤ (x48_3 : Int) := of_decide_eq_true (by first | (with_reducible assumption) | assumption)
              have q180 : x48_3 < (t176.length : Int) := of_decide_eq_true (by first | (with_reducible assumption) | assumption)
              obtain ⟨ad180, e180, hx180_0⟩ := Kd.at_bool (Kd.R_reads' HO_46.out).2.2 x48_3 p180 q180
              (try rw [← Nbq23.out] at hx180_0)
              cases e180
              replace p180 := eq_true p180
              replace q180 := eq_true q180
              have p181 : 0 ≤ (x48_3 : Int) := of_decide_eq_true (by first | (with_reducible assumption) | assumption)
              have q181 : x48_3 < (l3.length : Int) := of_decide_eq_true (by first | (with_reducible assumption) | assumption)
              obtain ⟨ad181, e181, hx181_0⟩ := Kd.at_string HR3.out x48_3 p181 q181
              cases e181
              replace hx181_0 := (HB.out.cell (World.block_lt_of_cell? w _ hx181_0)).trans hx181_0
              replace p181 := eq_true p181
              replace q181 := eq_true q181
              go_wp2_with (first | ((with_reducible refine gate_callee (f := 42) rfl ?_); refine goesL_ (some 59) rfl rfl Tryd.func42 (by kernel_rfl) rfl #[.string x0_3, .string (rdOf ByteArray.empty l3 x48_3)] rfl (by (try simp only [List.map_toArray, List.map_cons, List.map_nil]); first | done | rfl | (simp only [List.length_drop, List.length_take]; rfl)) ?_; (with_reducible refine (tree_node.calls k3 x0_3 (rdOf ByteArray.empty l3 x48_3) t182 _ ?side1 A26.out).mono ?_); (case side1 => exact gw_step hG_ (by repeat (first | (with_reducible first | exact HB.out | apply below_alloc | apply pw_below_drewN | apply below_drew1) | exact HB.out))); rintro e w27 ⟨rfl, hb⟩; refine ⟨_, rfl, ?_⟩; have n0_ := Aside0.mk (Kd.R_below (by (with_reducible repeat (first | apply Kd.R_alloc | apply Kd.R_drewN | apply Kd.R_drew)); exact HO_46.out) hb); have n1_ := Aside0.mk (below_step (by repeat (first | (with_reducible first | exact HB.out | apply below_alloc | apply pw_below_drewN | apply below_drew1) | exact HB.out)) hb); clear HO_46; clear HB; have HO_46 := n0_; have HB := n1_; clear n0_ n1_; (try clear hb); (try clear hb2); (try clear hk); (try clear hi)))
              go_roundg k3
              case measure => have := HJ4.out; have := HJ11.out; have := HK3.out; omega
              case rel => exact ⟨(t182), (wrap64 (x48_3 + 1)), (by first | rfl | (simp; done) | (simp [*]; done)), (by first | rfl | (simp; done) | (simp [*]; done)), H', ⟨by have := HJ4.out; have := HJ11.out; have := HK3.out; omega⟩, ⟨by (with_reducible repeat (first | apply Kd.R_alloc | apply Kd.R_drewN | apply Kd.R_drew)); exact HO_46.out⟩, ⟨by repeat (first | (with_reducible first | exact HB.out | apply below_alloc | apply pw_below_drewN | apply below_drew1) | exact HB.out)⟩⟩
             ·rw [if_neg c25] at H
              exact absurd H (by simp)
            ·replace c24 := Bool.eq_false_iff.mpr c24
             subst c24
             have H1 : (if x48_3 < (l3.length : Int) then ((tree_node.f k3 (rdOf ByteArray.empty l3 x48_3) x0_3).bind fun t184 => (tree_Climb.l0 k3 t184 l3 t176 (t176.length : Int) (wrap64 (x48_3 + 1)))) else (none)) = some (r1, r2) := by rw [if_neg (show ¬ (false = true) by decide)] at H; exact H
             clear H
             have H := H1
             clear H1
             by_cases c28 : x48_3 < (l3.length : Int)
             ·rw [if_pos c28] at H
              have c28b0 : decide (x48_3 < (l3.length : Int)) = true := decide_eq_true c28
              clear c28
              replace H := Option.bind_eq_some_iff.mp H
              obtain ⟨t184, A290, H⟩ := H
              replace H : (tree_Climb.l0 k3 t184 l3 t176 (t176.length : Int) (wrap64 (x48_3 + 1))) = some (r1, r2) := H
              have A29 := Aside0.mk A290
              clear A290
              have H' := Aside0.mk H
              clear H
              have p180 : 0 ≤ (x48_3 : Int) := of_decide_eq_true (by first | (with_reducible assumption) | assumption)
              have q180 : x48_3 < (t176.length : Int) := of_decide_eq_true (by first | (with_reducible assumption) | assumption)
              obtain ⟨ad180, e180, hx180_0⟩ := Kd.at_bool (Kd.R_reads' HO_46.out).2.2 x48_3 p180 q180
              (try rw [← Nbq23.out] at hx180_0)
              cases e180
              replace p180 := eq_true p180
              replace q180 := eq_true q180
              have p183 : 0 ≤ (x48_3 : Int) := of_decide_eq_true (by first | (with_reducible assumption) | assumption)
              have q183 : x48_3 < (l3.length : Int) := of_decide_eq_true (by first | (with_reducible assumption) | assumption)
              obtain ⟨ad183, e183, hx183_0⟩ := Kd.at_string HR3.out x48_3 p183 q183
              cases e183
              replace hx183_0 := (HB.out.cell (World.block_lt_of_cell? w _ hx183_0)).trans hx183_0
              replace p183 := eq_true p183
              replace q183 := eq_true q183
              go_wp2_with (first | ((with_reducible refine gate_callee (f := 42) rfl ?_); refine goesL_ (some 65) rfl rfl Tryd.func42 (by kernel_rfl) rfl #[.string (rdOf ByteArray.empty l3 x48_3), .string x0_3] rfl (by (try simp only [List.map_toArray, List.map_cons, List.map_nil]); first | done | rfl | (simp only [List.length_drop, List.length_take]; rfl)) ?_; (with_reducible refine (tree_node.calls k3 (rdOf ByteArray.empty l3 x48_3) x0_3 t184 _ ?side1 A29.out).mono ?_); (case side1 => exact gw_step hG_ (by repeat (first | (with_reducible first | exact HB.out | apply below_alloc | apply pw_below_drewN | apply below_drew1) | exact HB.out))); rintro e w30 ⟨rfl, hb⟩; refine ⟨_, rfl, ?_⟩; have n0_ := Aside0.mk (Kd.R_below (by (with_reducible repeat (first | apply Kd.R_alloc | apply Kd.R_drewN | apply Kd.R_drew)); exact HO_46.out) hb); have n1_ := Aside0.mk (below_step (by repeat (first | (with_reducible first | exact HB.out | apply below_alloc | apply pw_below_drewN | apply below_drew1) | exact HB.out)) hb); clear HO_46; clear HB; have HO_46 := n0_; have HB := n1_; clear n0_ n1_; (try clear hb); (try clear hb2); (try clear hk); (try clear hi)))
              go_roundg k3
              case measure => have := HJ4.out; have := HJ11.out; have := HK3.out; omega
              case rel => exact ⟨(t184), (wrap64 (x48_3 + 1)), (by first | rfl | (simp; done) | (simp [*]; done)), (by first | rfl | (simp; done) | (simp [*]; done)), H', ⟨by have := HJ4.out; have := HJ11.out; have := HK3.out; omega⟩, ⟨by (with_reducible repeat (first | apply Kd.R_alloc | apply Kd.R_drewN | apply Kd.R_drew)); exact HO_46.out⟩, ⟨by repeat (first | (with_reducible first | exact HB.out | apply below_alloc | apply pw_below_drewN | apply below_drew1) | exact HB.out)⟩⟩
             ·rw [if_neg c28] at H
              exact absurd H (by simp)
           ·rw [if_neg c22] at H
            exact absurd H (by simp)
          ·rw [if_neg c21] at H
           exact absurd H (by simp)
         ·rw [if_neg c20] at H
          have c20b0 : decide (x48_3 < (t176.length : Int)) = false := decide_eq_false c20
          clear c20
          simp only [Option.some.injEq, Prod.mk.injEq] at H
          obtain ⟨rfl, rfl⟩ := H
          go_wp2
          go_ret2
          exact ⟨by first | rfl | (simp [errW_none, errW_some] <;> rfl) | (simp [*, errW_none, errW_some] <;> rfl), by repeat (first | (with_reducible first | exact HB.out | apply below_alloc | apply pw_below_drewN | apply below_drew1) | exact HB.out)⟩
end Go.Proofs.YtgcfhgkhokljcaaDoor.PB
namespace Go.Proofs.YtgcfhgkhokljcaaDoor.PB
open Go.RowKit Go.Proofs.YtgcfhgkhokljcaaDoor Go.Proofs.YtgcfhgkhokljcaaDoor.HSha Go.Proofs.YtgcfhgkhokljcaaDoor.PS Go.Proofs.YtgcfhgkhokljcaaDoor.PR Go.Proofs.YtgcfhgkhokljcaaDoor.PT Go.Proofs.YtgcfhgkhokljcaaDoorW.PrintWords Go.Proofs.YtgcfhgkhokljcaaDoorW.PrintLast Go.Proofs.YtgcfhgkhokljcaaDoorW.PrintMore
attribute [local go_sem] max2_int min2_int max_two min_two max_three min_three max_four min_four   -- for this text's walks alone
set_option linter.unusedVariables false
set_option linter.unusedSimpArgs false
/-! ### tree_Leaves: function 38 -/
def tree_Leaves.l0 : Nat → List ByteArray → List (List Int) → Int → Int → Option (List ByteArray)
 | 0, _, _, _, _ => none
 | k + 1, x3, x6, x7, x8 => if x8 < x7 then (if 0 ≤ x8 then (if x8 < (x6.length : Int) then ((seal_Leaf.f k (rd_L3 x6 x8)).bind fun t186 => (if x3.length < 8796093022208 then (tree_Leaves.l0 k (x3 ++ [t186]) x6 x7 (wrap64 (x8 + 1))) else (none))) else (none)) else (none)) else (some x3)
def tree_Leaves.f (k : Nat) (l0 : List (List Int)) : Option (List ByteArray) := tree_Leaves.l0 k ([] : List ByteArray) l0 (l0.length : Int) 0
theorem tree_Leaves.mono_l : ∀ k, (∀ y0 y1 y2 y3, LeO (tree_Leaves.l0 k y0 y1 y2 y3) (tree_Leaves.l0 (k + 1) y0 y1 y2 y3))
 | 0 => fun _ _ _ _ r h => by simp [tree_Leaves.l0] at h
 | k + 1 => by
  have ih0 := tree_Leaves.mono_l k
  ·intro y0 y1 y2 y3
   unfold tree_Leaves.l0
   repeat' first
   | (with_reducible exact ih0 _ _ _ _)
   | (with_reducible exact seal_Leaf.mono _ _)
   | (with_reducible exact LeO.refl _)
   | (with_reducible exact LeO.none _)
   | (with_reducible refine LeO.ite ?_ ?_)
   | (with_reducible refine LeO.bind ?_ (fun _ => ?_))
theorem tree_Leaves.mono : ∀ a0 k, LeO (tree_Leaves.f k a0) (tree_Leaves.f (k + 1) a0) := by
 intro a0 k
 have ih0 := tree_Leaves.mono_l k
 unfold tree_Leaves.f
 repeat' first
   | (with_reducible exact ih0 _ _ _ _)
   | (with_reducible exact seal_Leaf.mono _ _)
   | (with_reducible exact LeO.refl _)
   | (with_reducible exact LeO.none _)
   | (with_reducible refine LeO.ite ?_ ?_)
   | (with_reducible refine LeO.bind ?_ (fun _ => ?_))
set_option maxHeartbeats 8000000 in
set_option maxRecDepth 100000 in
theorem tree_Leaves.calls (k : Nat) (A0 : Option Addr) (c0 : Nat) (l0 : List (List Int)) (r : List ByteArray) (w : World) (hG_ : Aside0 (GW w)) (hr0 : Kd.C (Kd.slice 5 (Kd.int .u8)) w A0 l0.length l0) (hc0 : l0.length ≤ c0) (h : tree_Leaves.f k l0 = some r) :
  Calls Tryd.prog 38 #[.slice A0 l0.length c0] w fun e w' => ∃ v0_ : Value, e = .returned (v0_) ∧ Kd.R Kd.string 9 w' w.heap.size (fun _ => True) v0_ r ∧ Below w.heap.size w w' := by
 have HR0 := Aside0.mk hr0
 have HC0 := Aside0.mk hc0
 clear hr0 hc0
 have HB := Aside0.mk (Below.refl w.heap.size w)
 have H : (tree_Leaves.l0 k ([] : List ByteArray) l0 (l0.length : Int) 0) = some r := h
 clear h
 have H' := Aside0.mk H
 clear H
 go_enter Tryd.func38, Tryd.ntmps38
 go_wp2
 go_loopg [3, 8] k (fun kq v3 v8 w' => ∃ (x3_1 : List ByteArray) (x8_1 : Int), v8 = .int .i64 x8_1 ∧ Aside0 (tree_Leaves.l0 kq x3_1 l0 (l0.length : Int) x8_1 = some r) ∧ Aside0 (kq ≤ k) ∧ Aside0 (Kd.R Kd.string 9 w' w.heap.size (fun _ => True) v3 x3_1) ∧ Aside0 (Below w.heap.size w w'))
 case atStart => exact ⟨(([] : List ByteArray)), (0), (by first | rfl | (simp; done) | (simp [*]; done)), H', ⟨Nat.le_refl _⟩, ⟨by first | exact Kd.R_nil _ _ _ _ _ | exact Kd.N_nil _ _ _ _ _ | exact Kd.V_nil _ _ _ _ _ | exact Kd.Q_nil _ _ _ _ _ | exact Kd.S_nil _ _ _ _ _⟩, ⟨by repeat (first | (with_reducible first | exact HB.out | apply below_alloc | apply pw_below_drewN | apply below_drew1) | exact HB.out)⟩⟩
 case round =>
  clear H'
  obtain ⟨x3_1, x8_1, rfl, HA, HK1, HO_3, HB⟩ := hrel
  cases gk with
  | zero => exact absurd HA.out (by simp [tree_Leaves.l0])
  | succ k1 =>
   have H := HA.out
   clear HA
   simp only [tree_Leaves.l0] at H
   by_cases c2 : x8_1 < (l0.length : Int)
   ·rw [if_pos c2] at H
    have c2b0 : decide (x8_1 < (l0.length : Int)) = true := decide_eq_true c2
    clear c2
    by_cases c3 : 0 ≤ x8_1
    ·rw [if_pos c3] at H
     have c3b0 : decide (0 ≤ x8_1) = true := decide_eq_true c3
     clear c3
     by_cases c4 : x8_1 < (l0.length : Int)
     ·rw [if_pos c4] at H
      have c4b0 : decide (x8_1 < (l0.length : Int)) = true := decide_eq_true c4
      clear c4
      replace H := Option.bind_eq_some_iff.mp H
      obtain ⟨t186, A50, H⟩ := H
      replace H : (if x3_1.length < 8796093022208 then (tree_Leaves.l0 k1 (x3_1 ++ [t186]) l0 (l0.length : Int) (wrap64 (x8_1 + 1))) else (none)) = some r := H
      have A5 := Aside0.mk A50
      clear A50
      by_cases c6 : x3_1.length < 8796093022208
      ·rw [if_pos c6] at H
       have LMc6 := Aside0.mk c6
       clear c6
       obtain ⟨y187, hy187⟩ : ∃ y_ : List ByteArray, y_ = (x3_1 ++ [t186]) := ⟨_, rfl⟩
       replace H : (tree_Leaves.l0 k1 y187 l0 (l0.length : Int) (wrap64 (x8_1 + 1))) = some r := by first | (rw [hy187]; with_reducible exact H) | (have H2_ := (Option.bind_some _ _).symm.trans H; rw [hy187]; with_reducible exact H2_) | (have H2_ := (Option.bind_some _ _).symm.trans H; with_reducible exact H2_) | with_reducible exact H | (rw [hy187]; exact H) | exact H
       have Ny187 := Aside0.mk hy187
       clear hy187
       have H' := Aside0.mk H
       clear H
       have p185 : 0 ≤ (x8_1 : Int) := of_decide_eq_true (by first | (with_reducible assumption) | assumption)
       have q185 : x8_1 < (l0.length : Int) := of_decide_eq_true (by first | (with_reducible assumption) | assumption)
       obtain ⟨ad185, A185_0, c185_0, e185, hx185_0, hl185_0, hi185_0⟩ := at_L3 HR0.out x8_1 p185 q185
       cases e185
       replace hx185_0 := (HB.out.cell (World.block_lt_of_cell? w _ hx185_0)).trans hx185_0
       have HR185_0 := Aside0.mk hi185_0
       have HC185_0 := Aside0.mk hl185_0
       clear hi185_0 hl185_0
       replace p185 := eq_true p185
       replace q185 := eq_true q185
       go_wp2_with (first | ((with_reducible refine gate_callee (f := 59) rfl ?_); refine goesL_ (some 14) rfl rfl Tryd.func59 (by kernel_rfl) rfl #[.slice A185_0 (rd_L3 l0 x8_1).length c185_0] rfl (by (try simp only [List.map_toArray, List.map_cons, List.map_nil]); first | done | rfl | (simp only [List.length_drop, List.length_take]; rfl)) ?_; (with_reducible refine (seal_Leaf.calls k1 _ _ (rd_L3 l0 x8_1) t186 _ ?side3 ?side1 ?side2 A5.out).mono ?_); (case side1 => repeat (first | exact (Kd.C_below HR185_0.out HB.out) | (with_reducible refine Kd.C_alloc ?_ _) | (with_reducible refine Kd.C_drewN ?_ _) | (with_reducible refine Kd.C_drew ?_))); (case side2 => exact HC185_0.out); (case side3 => exact gw_step hG_ (by repeat (first | (with_reducible first | exact HB.out | apply below_alloc | apply pw_below_drewN | apply below_drew1) | exact HB.out))); rintro e w7 ⟨rfl, hb⟩; refine ⟨_, rfl, ?_⟩; have n0_ := Aside0.mk (Kd.R_below (by (with_reducible repeat (first | apply Kd.R_alloc | apply Kd.R_drewN | apply Kd.R_drew)); exact HO_3.out) hb); have n1_ := Aside0.mk (below_step (by repeat (first | (with_reducible first | exact HB.out | apply below_alloc | apply pw_below_drewN | apply below_drew1) | exact HB.out)) hb); clear HO_3; clear HB; have HO_3 := n0_; have HB := n1_; clear n0_ n1_; (try clear hb); (try clear hb2); (try clear hk); (try clear hi)) | ((with_reducible refine gate_builtin (b := .append) (xs := #[.tmp 12, .tmp 15]) rfl ?_); at_builtin; refine Kd.R_append Kd.string (w0 := w) w.heap.size rfl (.tmp 12) (.tmp 15) 22 9 (.string ⟨#[]⟩) 16 rfl Tryd.underlying22 info9 rfl (by decide) (by omega) u3 x3_1 t186 [.string t186] (fun _ => True) (fun _ => False) rfl rfl ?aP (fun _ hk => hk.elim) ?aF ?aO ?aB ?aS ?aL ?_; (case aP => exact rfl); (case aB => exact (by repeat (first | (with_reducible first | exact HB.out | apply below_alloc | apply pw_below_drewN | apply below_drew1) | exact HB.out))); (case aF => exact (fun _ _ => trivial)); (case aO => exact (by (with_reducible repeat (first | apply Kd.R_alloc | apply Kd.R_drewN | apply Kd.R_drew)); exact HO_3.out)); (case aS => exact (below_size (by repeat (first | (with_reducible first | exact HB.out | apply below_alloc | apply pw_below_drewN | apply below_drew1) | exact HB.out)))); (case aL => have := LMc6.out; omega); intro v188 w8 ho hb hg hat; rw [← Ny187.out] at ho; have n0_ := Aside0.mk (hb); have n1_ := Aside0.mk (ho); clear HB; clear HO_3; have HB := n0_; have HO189 := n1_; clear n0_ n1_; clear ho hb hg hat))
       go_roundg k1
       case measure => have := HK1.out; omega
       case rel => exact ⟨(y187), (wrap64 (x8_1 + 1)), (by first | rfl | (simp; done) | (simp [*]; done)), H', ⟨by have := HK1.out; omega⟩, ⟨by (with_reducible repeat (first | apply Kd.R_alloc | apply Kd.R_drewN | apply Kd.R_drew)); exact HO189.out⟩, ⟨by repeat (first | (with_reducible first | exact HB.out | apply below_alloc | apply pw_below_drewN | apply below_drew1) | exact HB.out)⟩⟩
      ·rw [if_neg c6] at H
       exact absurd H (by simp)
     ·rw [if_neg c4] at H
      exact absurd H (by simp)
    ·rw [if_neg c3] at H
     exact absurd H (by simp)
   ·rw [if_neg c2] at H
    have c2b0 : decide (x8_1 < (l0.length : Int)) = false := decide_eq_false c2
    clear c2
    obtain rfl := Option.some.inj H
    go_wp2
    go_ret
    exact ⟨_, by first | rfl | (simp [errW_none, errW_some] <;> rfl) | (simp [*, errW_none, errW_some] <;> rfl), by (with_reducible repeat (first | apply Kd.R_alloc | apply Kd.R_drewN | apply Kd.R_drew)); exact HO_3.out, by repeat (first | (with_reducible first | exact HB.out | apply below_alloc | apply pw_below_drewN | apply below_drew1) | exact HB.out)⟩
end Go.Proofs.YtgcfhgkhokljcaaDoor.PB

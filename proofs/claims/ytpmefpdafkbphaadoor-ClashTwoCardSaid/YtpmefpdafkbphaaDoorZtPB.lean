import Derived.Test.YtpmefpdafkbphaaDoorZtPB0
namespace Go.Proofs.YtpmefpdafkbphaaDoor.PB
open HZ Go.RowKit HSha PS PR PT Go.Proofs.YtpmefpdafkbphaaDoorW.PrintWords Go.Proofs.YtpmefpdafkbphaaDoorW.PrintLast Go.Proofs.YtpmefpdafkbphaaDoorW.PrintMore
attribute [local go_sem] max2_int min2_int max_two min_two max_three min_three max_four min_four
set_option linter.unusedVariables false
set_option linter.unusedSimpArgs false
def tree_Leaves.l0 : Nat → List ByteArray → List (List Int) → Int → Int → Option (List ByteArray)
 | 0, _, _, _, _ => none
 | k + 1, x3, x6, x7, x8 => if x8 < x7 then (if 0 ≤ x8 then (if x8 < (x6.length : Int) then ((seal_Leaf.f k (rd_L3 x6 x8)).bind fun t183 => (if x3.length < 8796093022208 then (tree_Leaves.l0 k (x3 ++ [t183]) x6 x7 (wrap64 (x8 + 1))) else (none))) else (none)) else (none)) else (some x3)
def tree_Leaves.f (k : Nat) (l0 : List (List Int)) : Option (List ByteArray) := tree_Leaves.l0 k ([] : List ByteArray) l0 (l0.length : Int) 0
theorem tree_Leaves.mono_l : ∀ k, (∀ y0 y1 y2 y3, LeO (tree_Leaves.l0 k y0 y1 y2 y3) (tree_Leaves.l0 (k + 1) y0 y1 y2 y3))
 | 0 => fun _ _ _ _ r h => by simp [tree_Leaves.l0] at h
 | k + 1 => by
  have ih0 := tree_Leaves.mono_l k
  ·intro y0 y1 y2 y3
   unfold tree_Leaves.l0
   repeat' first
   | (with_reducible exact ih0 _ _ _ _)
   | (with_reducible exact seal_Leaf.mono _ _)
   | (with_reducible exact LeO.refl _)
   | (with_reducible exact LeO.none _)
   | (with_reducible refine LeO.ite ?_ ?_)
   | (with_reducible refine LeO.bind ?_ (fun _ => ?_))
theorem tree_Leaves.mono : ∀ a0 k, LeO (tree_Leaves.f k a0) (tree_Leaves.f (k + 1) a0) := by
 intro a0 k
 have ih0 := tree_Leaves.mono_l k
 unfold tree_Leaves.f
 repeat' first
   | (with_reducible exact ih0 _ _ _ _)
   | (with_reducible exact seal_Leaf.mono _ _)
   | (with_reducible exact LeO.refl _)
   | (with_reducible exact LeO.none _)
   | (with_reducible refine LeO.ite ?_ ?_)
   | (with_reducible refine LeO.bind ?_ (fun _ => ?_))
set_option maxHeartbeats 8000000 in
set_option maxRecDepth 100000 in
theorem tree_Leaves.calls (k : Nat) (A0 : Option Addr) (c0 : Nat) (l0 : List (List Int)) (r : List ByteArray) (w : World) (hG_ : Aside0 (GW w)) (hr0 : Kd.C (Kd.slice 5 (Kd.int .u8)) w A0 l0.length l0) (hc0 : l0.length ≤ c0) (h : tree_Leaves.f k l0 = some r) :
  Calls Tryd.prog 46 #[.slice A0 l0.length c0] w fun e w' => ∃ v0_ : Value, e = .returned (v0_) ∧ Kd.R Kd.string 9 w' w.heap.size (fun _ => True) v0_ r ∧ Below w.heap.size w w' := by
 have HR0 := zM hr0
 have HC0 := zM hc0
 clear hr0 hc0
 have HB := zM (Below.refl w.heap.size w)
 have H : (tree_Leaves.l0 k ([] : List ByteArray) l0 (l0.length : Int) 0) = some r := h
 clear h
 have H' := zM H
 clear H
 go_enter Tryd.func46, Tryd.ntmps46
 go_wp2
 go_loopg [3, 8] k (fun kq v3 v8 w' => ∃ (x3_1 : List ByteArray) (x8_1 : Int), v8 = .int .i64 x8_1 ∧ Aside0 (tree_Leaves.l0 kq x3_1 l0 (l0.length : Int) x8_1 = some r) ∧ Aside0 (kq ≤ k) ∧ Aside0 (Kd.R Kd.string 9 w' w.heap.size (fun _ => True) v3 x3_1) ∧ Aside0 (Below w.heap.size w w'))
 case atStart => exact ⟨(([] : List ByteArray)), (0), zz, H', ⟨Nat.le_refl _⟩, ⟨by first | exact Kd.R_nil _ _ _ _ _ | exact Kd.N_nil _ _ _ _ _ | exact Kd.V_nil _ _ _ _ _ | exact Kd.Q_nil _ _ _ _ _ | exact Kd.S_nil _ _ _ _ _⟩, ⟨zb HB.out⟩⟩
 case round =>
  clear H'; obtain ⟨x3_1, x8_1, rfl, HA, HK1, HO_3, HB⟩ := hrel
  cases gk with
  | zero => exact absurd HA.out (by simp [tree_Leaves.l0])
  | succ k1 =>
   have H := HA.out; clear HA; simp only [tree_Leaves.l0] at H
   by_cases c2 : x8_1 < (l0.length : Int)
   ·rw [if_pos c2] at H
    have c2b0 : decide (x8_1 < (l0.length : Int)) = true := decide_eq_true c2; clear c2
    by_cases c3 : 0 ≤ x8_1
    ·rw [if_pos c3] at H
     have c3b0 : decide (0 ≤ x8_1) = true := decide_eq_true c3; clear c3
     by_cases c4 : x8_1 < (l0.length : Int)
     ·rw [if_pos c4] at H
      have c4b0 : decide (x8_1 < (l0.length : Int)) = true := decide_eq_true c4; clear c4; replace H := zB H; obtain ⟨t183, A50, H⟩ := H; (replace H : (if x3_1.length < 8796093022208 then (tree_Leaves.l0 k1 (x3_1 ++ [t183]) l0 (l0.length : Int) (wrap64 (x8_1 + 1))) else (none)) = some r := H); have A5 := zM A50; clear A50
      by_cases c6 : x3_1.length < 8796093022208
      ·rw [if_pos c6] at H
       have LMc6 := zM c6; clear c6; obtain ⟨y184, hy184⟩ : ∃ y_ : List ByteArray, y_ = (x3_1 ++ [t183]) := ⟨_, rfl⟩; replace H : (tree_Leaves.l0 k1 y184 l0 (l0.length : Int) (wrap64 (x8_1 + 1))) = some r := zh H hy184; have Ny184 := zM hy184; clear hy184; have H' := zM H; clear H; have p182 : 0 ≤ (x8_1 : Int) := zd; have q182 : x8_1 < (l0.length : Int) := zd; obtain ⟨ad182, A182_0, c182_0, e182, hx182_0, hl182_0, hi182_0⟩ := at_L3 HR0.out x8_1 p182 q182; cases e182; replace hx182_0 := zw HB hx182_0; have HR182_0 := zM hi182_0; have HC182_0 := zM hl182_0; clear hi182_0 hl182_0; replace p182 := eq_true p182; replace q182 := eq_true q182; (go_wp2_with (first | ((with_reducible refine gate_callee (f := 57) rfl ?_); refine goesL_ (some 14) rfl rfl Tryd.func57 (by kernel_rfl) rfl #[.slice A182_0 (rd_L3 l0 x8_1).length c182_0] rfl zm ?_; (with_reducible refine (seal_Leaf.calls k1 _ _ (rd_L3 l0 x8_1) t183 _ ?side3 ?side1 ?side2 A5.out).mono ?_); (case side1 => exact zc (Kd.C_below HR182_0.out HB.out)); (case side2 => exact HC182_0.out); (case side3 => exact gw_step hG_ (zb HB.out)); rintro e w7 ⟨rfl, hb⟩; refine ⟨_, rfl, ?_⟩; replace HO_3 := zR HO_3 hb; replace HB := zS HB hb; (try clear hb)) | ((with_reducible refine gate_builtin (b := .append) (xs := #[.tmp 12, .tmp 15]) rfl ?_); at_builtin; refine Kd.R_append Kd.string (w0 := w) w.heap.size rfl (.tmp 12) (.tmp 15) 22 9 (.string ⟨#[]⟩) 16 rfl Tryd.underlying22 info9 rfl (by decide) (by omega) u3 x3_1 t183 [.string t183] (fun _ => True) (fun _ => False) rfl rfl ?aP (fun _ hk => hk.elim) ?aF ?aO ?aB ?aS ?aL ?_; (case aP => exact rfl); (case aB => exact (zb HB.out)); (case aF => exact (fun _ _ => trivial)); (case aO => exact (zr HO_3.out)); (case aS => exact (below_size (zb HB.out))); (case aL => have := LMc6.out; omega); intro v185 w8 ho hb hg hat; rw [← Ny184.out] at ho; replace HB := zM (hb); have HO186 := zM (ho); clear HO_3 ho hb hg hat))); go_roundg k1
       case measure => have := HK1.out; omega
       case rel => exact ⟨(y184), (wrap64 (x8_1 + 1)), zz, H', ⟨by have := HK1.out; omega⟩, ⟨zr HO186.out⟩, ⟨zb HB.out⟩⟩
      ·rw [if_neg c6] at H
       exact absurd H (by simp)
     ·rw [if_neg c4] at H
      exact absurd H (by simp)
    ·rw [if_neg c3] at H
     exact absurd H (by simp)
   ·rw [if_neg c2] at H
    have c2b0 : decide (x8_1 < (l0.length : Int)) = false := decide_eq_false c2; clear c2; obtain rfl := Option.some.inj H; go_wp2; go_ret; (exact ⟨_, by first | rfl | (simp [errW_none, errW_some] <;> rfl) | (simp [*, errW_none, errW_some] <;> rfl), zr HO_3.out, zb HB.out⟩)
end Go.Proofs.YtpmefpdafkbphaaDoor.PB

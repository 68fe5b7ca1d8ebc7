import Derived.Test.YtpmefpdafkbphaaDoorZtPT
namespace Go.Proofs.YtpmefpdafkbphaaDoor.PB
open HZ Go.RowKit Go.Proofs.YtpmefpdafkbphaaDoor HSha PS PR PT Go.Proofs.YtpmefpdafkbphaaDoorW.PrintWords Go.Proofs.YtpmefpdafkbphaaDoorW.PrintLast Go.Proofs.YtpmefpdafkbphaaDoorW.PrintMore
attribute [local go_sem] max2_int min2_int max_two min_two max_three min_three max_four min_four
set_option linter.unusedVariables false
set_option linter.unusedSimpArgs false
def errW : Option Int → Value
 | none => .nilIface
 | some c => .iface 0 (.int .i64 c)
theorem errW_none : errW none = .nilIface := rfl
theorem errW_some (c : Int) : errW (some c) = .iface 0 (.int .i64 c) := rfl
theorem info4 : (Tryd.prog.info? 4).map (fun i => (i.zero, i.size, i.bytes)) = some (some (.bool false), 1, 1) := by kernel_rfl
theorem info9 : (Tryd.prog.info? 9).map (fun i => (i.zero, i.size, i.bytes)) = some (some (.string ⟨#[]⟩), 1, 16) := by kernel_rfl
def rd_L3 (xs : List (List Int)) (i : Int) : (List Int) := xs.getD i.toNat ([] : List Int)
theorem at_L3 {w : World} {A : Option Addr} {n : Nat} {xs : List (List Int)} (h : Kd.C (Kd.slice 5 (Kd.int .u8)) w A n xs) (i : Int) (h0 : 0 ≤ i) (h1 : i < n) : ∃ ad A0 c0, A = some ad ∧ w.cell? (ad.add i.toNat) = some (.slice A0 (rd_L3 xs i).length c0) ∧ (rd_L3 xs i).length ≤ c0 ∧ (Kd.int .u8).C w A0 (rd_L3 xs i).length (rd_L3 xs i) := by
 obtain ⟨ad, c, e, _, hK, hc0⟩ := Kd.C_get h ([] : List Int) i h0 h1
 have hc : ∀ j u, c[j]? = some u → w.cell? (ad.add (i.toNat * 1 + j)) = some u := hc0
 obtain ⟨A0, c0, rfl, l0, g0⟩ := hK
 exact ⟨ad, A0, c0, e, by have hq := hc 0 _ rfl; rwa [Nat.mul_one, Nat.add_zero] at hq, l0, g0⟩
end Go.Proofs.YtpmefpdafkbphaaDoor.PB
namespace Go.Proofs.YtpmefpdafkbphaaDoor.PB
open HZ Go.RowKit Go.Proofs.YtpmefpdafkbphaaDoor HSha PS PR PT Go.Proofs.YtpmefpdafkbphaaDoorW.PrintWords Go.Proofs.YtpmefpdafkbphaaDoorW.PrintLast Go.Proofs.YtpmefpdafkbphaaDoorW.PrintMore
attribute [local go_sem] max2_int min2_int max_two min_two max_three min_three max_four min_four
set_option linter.unusedVariables false
set_option linter.unusedSimpArgs false
def tree_all.l0 : Nat → List ByteArray → Int → Int → Option (Bool)
 | 0, _, _, _ => none
 | k + 1, x5, x6, x7 => if x7 < x6 then (if 0 ≤ x7 then (if x7 < (x5.length : Int) then (if ((rdOf ByteArray.empty x5 x7).size : Int) = 32 then (tree_all.l0 k x5 x6 (wrap64 (x7 + 1))) else (some false)) else (none)) else (none)) else (some true)
def tree_all.f (k : Nat) (l0 : List ByteArray) : Option (Bool) := tree_all.l0 k l0 (l0.length : Int) 0
theorem tree_all.mono_l : ∀ k, (∀ y0 y1 y2, LeO (tree_all.l0 k y0 y1 y2) (tree_all.l0 (k + 1) y0 y1 y2))
 | 0 => fun _ _ _ r h => by simp [tree_all.l0] at h
 | k + 1 => by
  have ih0 := tree_all.mono_l k
  ·intro y0 y1 y2
   unfold tree_all.l0
   repeat' first
   | (with_reducible exact ih0 _ _ _)
   | (with_reducible exact LeO.refl _)
   | (with_reducible exact LeO.none _)
   | (with_reducible refine LeO.ite ?_ ?_)
   | (with_reducible refine LeO.bind ?_ (fun _ => ?_))
theorem tree_all.mono : ∀ a0 k, LeO (tree_all.f k a0) (tree_all.f (k + 1) a0) := by
 intro a0 k
 have ih0 := tree_all.mono_l k
 unfold tree_all.f
 repeat' first
   | (with_reducible exact ih0 _ _ _)
   | (with_reducible exact LeO.refl _)
   | (with_reducible exact LeO.none _)
   | (with_reducible refine LeO.ite ?_ ?_)
   | (with_reducible refine LeO.bind ?_ (fun _ => ?_))
set_option maxHeartbeats 8000000 in
set_option maxRecDepth 100000 in
theorem tree_all.calls (k : Nat) (A0 : Option Addr) (c0 : Nat) (l0 : List ByteArray) (r : Bool) (w : World) (hr0 : Kd.C Kd.string w A0 l0.length l0) (hc0 : l0.length ≤ c0) (h : tree_all.f k l0 = some r) :
  Calls Tryd.prog 55 #[.slice A0 l0.length c0] w fun e w' => e = .returned (.bool r) ∧ Drawn0 w w' := by
 have HR0 := zM hr0
 have HC0 := zM hc0
 clear hr0 hc0
 have H : (tree_all.l0 k l0 (l0.length : Int) 0) = some r := h
 clear h
 have H' := zM H
 clear H
 go_enter Tryd.func55, Tryd.ntmps55
 go_wp2
 go_loopg [7] k (fun kq v7 w' => ∃ (x7_1 : Int), v7 = .int .i64 x7_1 ∧ Aside0 (tree_all.l0 kq l0 (l0.length : Int) x7_1 = some r) ∧ Aside0 (kq ≤ k) ∧ Drawn0 w w')
 case atStart => exact ⟨(0), zz, H', ⟨Nat.le_refl _⟩, by repeat (first | exact Drawn0.refl _ | apply Drawn0.step)⟩
 case round =>
  clear H'; obtain ⟨x7_1, rfl, HA, HK1, ⟨m1, rfl⟩⟩ := hrel
  cases gk with
  | zero => exact absurd HA.out (by simp [tree_all.l0])
  | succ k1 =>
   have H := HA.out; clear HA; simp only [tree_all.l0] at H
   by_cases c2 : x7_1 < (l0.length : Int)
   ·rw [if_pos c2] at H
    have c2b0 : decide (x7_1 < (l0.length : Int)) = true := decide_eq_true c2; clear c2
    by_cases c3 : 0 ≤ x7_1
    ·rw [if_pos c3] at H
     have c3b0 : decide (0 ≤ x7_1) = true := decide_eq_true c3; clear c3
     by_cases c4 : x7_1 < (l0.length : Int)
     ·rw [if_pos c4] at H
      have c4b0 : decide (x7_1 < (l0.length : Int)) = true := decide_eq_true c4; clear c4
      by_cases c5 : ((rdOf ByteArray.empty l0 x7_1).size : Int) = 32
      ·rw [if_pos c5] at H
       have c5b0 : (((rdOf ByteArray.empty l0 x7_1).size : Int) == 32) = true := beq_iff_eq.mpr c5; have c5b1 : (((rdOf ByteArray.empty l0 x7_1).size : Int) != 32) = false := bne_eq_false_iff_eq.mpr c5; clear c5; have H' := zM H; clear H; have p101 : 0 ≤ (x7_1 : Int) := zd; have q101 : x7_1 < (l0.length : Int) := zd; obtain ⟨ad101, e101, hx101_0⟩ := Kd.at_string HR0.out x7_1 p101 q101; cases e101; replace p101 := eq_true p101; replace q101 := eq_true q101; go_wp2; go_roundg k1
       case measure => have := HK1.out; omega
       case rel => exact ⟨(wrap64 (x7_1 + 1)), zz, H', ⟨by have := HK1.out; omega⟩, by repeat (first | exact Drawn0.refl _ | apply Drawn0.step)⟩
      ·rw [if_neg c5] at H
       have c5b0 : (((rdOf ByteArray.empty l0 x7_1).size : Int) == 32) = false := beq_eq_false_iff_ne.mpr c5; have c5b1 : (((rdOf ByteArray.empty l0 x7_1).size : Int) != 32) = true := bne_iff_ne.mpr c5; obtain rfl := Option.some.inj H; have p101 : 0 ≤ (x7_1 : Int) := zd; have q101 : x7_1 < (l0.length : Int) := zd; obtain ⟨ad101, e101, hx101_0⟩ := Kd.at_string HR0.out x7_1 p101 q101; cases e101; replace p101 := eq_true p101; replace q101 := eq_true q101; go_wp2; go_ret; (exact ⟨by first | rfl | (simp; done) | (simp [*]; done), by repeat (first | exact Drawn0.refl _ | apply Drawn0.step)⟩)
     ·rw [if_neg c4] at H
      exact absurd H (by simp)
    ·rw [if_neg c3] at H
     exact absurd H (by simp)
   ·rw [if_neg c2] at H
    have c2b0 : decide (x7_1 < (l0.length : Int)) = false := decide_eq_false c2; clear c2; obtain rfl := Option.some.inj H; go_wp2; go_ret; (exact ⟨by first | rfl | (simp; done) | (simp [*]; done), by repeat (first | exact Drawn0.refl _ | apply Drawn0.step)⟩)
def tree_node.f (k : Nat) (a0 : ByteArray) (a1 : ByteArray) : Option (ByteArray) := (seal_Node.f k a0 a1).bind fun bt102 => (some bt102.1)
theorem tree_node.mono : ∀ a0 a1 k, LeO (tree_node.f k a0 a1) (tree_node.f (k + 1) a0 a1) := by
 intro a0 a1 k
 unfold tree_node.f
 repeat' first
   | (with_reducible exact seal_Node.mono _ _ _)
   | (with_reducible exact LeO.refl _)
   | (with_reducible exact LeO.none _)
   | (with_reducible refine LeO.ite ?_ ?_)
   | (with_reducible refine LeO.bind ?_ (fun _ => ?_))
set_option maxHeartbeats 8000000 in
set_option maxRecDepth 100000 in
theorem tree_node.calls (k : Nat) (a0 : ByteArray) (a1 : ByteArray) (r : ByteArray) (w : World) (hG_ : Aside0 (GW w)) (h : tree_node.f k a0 a1 = some r) :
  Calls Tryd.prog 68 #[.string a0, .string a1] w fun e w' => e = .returned (.string r) ∧ Below w.heap.size w w' := by
 have HB := zM (Below.refl w.heap.size w)
 have H : ((seal_Node.f k a0 a1).bind fun bt102 => (some bt102.1)) = some r := h
 clear h
 replace H := zB H
 obtain ⟨⟨t102, t103⟩, A30, H⟩ := H
 replace H : (some t102) = some r := H
 have A3 := zM A30
 clear A30
 obtain rfl := Option.some.inj H
 go_enter Tryd.func68, Tryd.ntmps68
 go_wp2_with (first | ((with_reducible refine gate_callee (f := 88) rfl ?_); refine goesL_ (some 10) rfl rfl Tryd.func88 (by kernel_rfl) rfl #[.string a0, .string a1] rfl zm ?_; (with_reducible refine (seal_Node.calls k a0 a1 t102 t103 _ ?side1 A3.out).mono ?_); (case side1 => exact gw_step hG_ (zb HB.out)); rintro e w4 ⟨rfl, hb⟩; refine ⟨_, rfl, ?_⟩; replace HB := zS HB hb; (try clear hb)))
 go_ret
 exact ⟨by first | rfl | (simp [errW_none, errW_some] <;> rfl) | (simp [*, errW_none, errW_some] <;> rfl), zb HB.out⟩
end Go.Proofs.YtpmefpdafkbphaaDoor.PB
namespace Go.Proofs.YtpmefpdafkbphaaDoor.PB
open HZ Go.RowKit Go.Proofs.YtpmefpdafkbphaaDoor HSha PS PR PT Go.Proofs.YtpmefpdafkbphaaDoorW.PrintWords Go.Proofs.YtpmefpdafkbphaaDoorW.PrintLast Go.Proofs.YtpmefpdafkbphaaDoorW.PrintMore
attribute [local go_sem] max2_int min2_int max_two min_two max_three min_three max_four min_four
set_option linter.unusedVariables false
set_option linter.unusedSimpArgs false
mutual
def tree_root.l0 : Nat → List ByteArray → List ByteArray → Int → Int → Option (ByteArray)
 | 0, _, _, _, _ => none
 | k + 1, x0, x3, x13, x14 => if x14 < x13 then (if 0 ≤ x14 then (if x14 < (x0.length : Int) then (if x3.length < 8796093022208 then (tree_root.l1 k x0 (x3 ++ [rdOf ByteArray.empty x0 x14]) (wrap64 (x14 + 1)) x13 x14) else (none)) else (none)) else (none)) else (tree_root.l2 k x3)
def tree_root.l1 : Nat → List ByteArray → List ByteArray → Int → Int → Int → Option (ByteArray)
 | 0, _, _, _, _, _ => none
 | k + 1, x0, x3, x5, x13, x14 => if (Go.bits .and .i64 x5 1) = 0 then (if 0 ≤ (wrap64 ((wrap64 ((x3.length : Int) - 1)) - 1)) then (if (wrap64 ((wrap64 ((x3.length : Int) - 1)) - 1)) < (x3.length : Int) then (if 0 ≤ (wrap64 ((x3.length : Int) - 1)) then (if (wrap64 ((x3.length : Int) - 1)) < (x3.length : Int) then ((tree_node.f k (rdOf ByteArray.empty x3 (wrap64 ((wrap64 ((x3.length : Int) - 1)) - 1))) (rdOf ByteArray.empty x3 (wrap64 ((x3.length : Int) - 1)))).bind fun t111 => (if (wrap64 ((wrap64 ((x3.length : Int) - 1)) - 1)) ≤ (x3.length : Int) then ((some (x3.take ((wrap64 ((wrap64 ((x3.length : Int) - 1)) - 1)) : Int).toNat : List ByteArray)).bind fun y112 => (if y112.length < 8796093022208 then (tree_root.l1 k x0 (y112 ++ [t111]) (x5 / 2) x13 x14) else (none))) else (none))) else (none)) else (none)) else (none)) else (none)) else (tree_root.l0 k x0 x3 x13 (wrap64 (x14 + 1)))
def tree_root.l2 : Nat → List ByteArray → Option (ByteArray)
 | 0, _ => none
 | k + 1, x3 => if (x3.length : Int) > 1 then (if 0 ≤ (wrap64 ((wrap64 ((x3.length : Int) - 1)) - 1)) then (if (wrap64 ((wrap64 ((x3.length : Int) - 1)) - 1)) < (x3.length : Int) then (if 0 ≤ (wrap64 ((x3.length : Int) - 1)) then (if (wrap64 ((x3.length : Int) - 1)) < (x3.length : Int) then ((tree_node.f k (rdOf ByteArray.empty x3 (wrap64 ((wrap64 ((x3.length : Int) - 1)) - 1))) (rdOf ByteArray.empty x3 (wrap64 ((x3.length : Int) - 1)))).bind fun t120 => (if (wrap64 ((wrap64 ((x3.length : Int) - 1)) - 1)) ≤ (x3.length : Int) then ((some (x3.take ((wrap64 ((wrap64 ((x3.length : Int) - 1)) - 1)) : Int).toNat : List ByteArray)).bind fun y121 => (if y121.length < 8796093022208 then (tree_root.l2 k (y121 ++ [t120])) else (none))) else (none))) else (none)) else (none)) else (none)) else (none)) else (if 0 < (x3.length : Int) then (some (rdOf ByteArray.empty x3 0)) else (none))
end
def tree_root.f (k : Nat) (l0 : List ByteArray) : Option (ByteArray) := if (l0.length : Int) = 0 then ((sha_Sum.f ([] : List Int)).bind fun t104 => (some t104)) else (tree_root.l0 k l0 ([] : List ByteArray) (l0.length : Int) 0)
theorem tree_root.mono_l : ∀ k, (∀ y0 y1 y2 y3, LeO (tree_root.l0 k y0 y1 y2 y3) (tree_root.l0 (k + 1) y0 y1 y2 y3)) ∧ (∀ y0 y1 y2 y3 y4, LeO (tree_root.l1 k y0 y1 y2 y3 y4) (tree_root.l1 (k + 1) y0 y1 y2 y3 y4)) ∧ (∀ y0, LeO (tree_root.l2 k y0) (tree_root.l2 (k + 1) y0))
 | 0 => ⟨fun _ _ _ _ r h => by simp [tree_root.l0] at h, fun _ _ _ _ _ r h => by simp [tree_root.l1] at h, fun _ r h => by simp [tree_root.l2] at h⟩
 | k + 1 => by
  obtain ⟨ih0, ih1, ih2⟩ := tree_root.mono_l k; refine ⟨?_, ?_, ?_⟩
  ·intro y0 y1 y2 y3
   unfold tree_root.l0
   repeat' first
   | (with_reducible exact ih0 _ _ _ _)
   | (with_reducible exact ih1 _ _ _ _ _)
   | (with_reducible exact ih2 _)
   | (with_reducible exact tree_node.mono _ _ _)
   | (with_reducible exact LeO.refl _)
   | (with_reducible exact LeO.none _)
   | (with_reducible refine LeO.ite ?_ ?_)
   | (with_reducible refine LeO.bind ?_ (fun _ => ?_))
  ·intro y0 y1 y2 y3 y4
   unfold tree_root.l1
   repeat' first
   | (with_reducible exact ih0 _ _ _ _)
   | (with_reducible exact ih1 _ _ _ _ _)
   | (with_reducible exact ih2 _)
   | (with_reducible exact tree_node.mono _ _ _)
   | (with_reducible exact LeO.refl _)
   | (with_reducible exact LeO.none _)
   | (with_reducible refine LeO.ite ?_ ?_)
   | (with_reducible refine LeO.bind ?_ (fun _ => ?_))
  ·intro y0
   unfold tree_root.l2
   repeat' first
   | (with_reducible exact ih0 _ _ _ _)
   | (with_reducible exact ih1 _ _ _ _ _)
   | (with_reducible exact ih2 _)
   | (with_reducible exact tree_node.mono _ _ _)
   | (with_reducible exact LeO.refl _)
   | (with_reducible exact LeO.none _)
   | (with_reducible refine LeO.ite ?_ ?_)
   | (with_reducible refine LeO.bind ?_ (fun _ => ?_))
theorem tree_root.mono : ∀ a0 k, LeO (tree_root.f k a0) (tree_root.f (k + 1) a0) := by
 intro a0 k
 obtain ⟨ih0, ih1, ih2⟩ := tree_root.mono_l k
 unfold tree_root.f
 repeat' first
   | (with_reducible exact ih0 _ _ _ _)
   | (with_reducible exact ih1 _ _ _ _ _)
   | (with_reducible exact ih2 _)
   | (with_reducible exact tree_node.mono _ _ _)
   | (with_reducible exact LeO.refl _)
   | (with_reducible exact LeO.none _)
   | (with_reducible refine LeO.ite ?_ ?_)
   | (with_reducible refine LeO.bind ?_ (fun _ => ?_))
def tree_root.T12 : Bool × List (List Nat × List Nat) := (true, [([], []), ([], []), ([1], [1]), ([0, 2], [0, 2]), ([], []), ([], []), ([5], [5]), ([4, 6], [4, 6]), ([7], [7]), ([], []), ([], []), ([9, 10], [9, 10]), ([11], [11]), ([8, 12], [8, 12]), ([13], [13]), ([3, 14, 13], [3, 14]), ([15, 15, 0, 1, 2, 3, 4, 5, 6, 7, 8, 9, 10, 11, 12, 13, 14, 15], [0, 4, 9, 15])])
def tree_root.B12 : List Nat := [0, 0, 2, 7, 0, 0, 32, 112, 240, 0, 0, 1536, 3584, 8176, 16368, 32767, 65535]
theorem tree_root.tab12 : rtab .any (opsOf Tryd.f56 12) = tree_root.T12 := by kernel_rfl
theorem tree_root.bits12 : waitsOk tree_root.T12.2 tree_root.B12 = true := by kernel_rfl
def tree_root.T16 : Bool × List (List Nat × List Nat) := (true, [([], []), ([], []), ([1], [1]), ([0, 2], [0, 2]), ([], []), ([], []), ([5], [5]), ([4, 6], [4, 6]), ([7], [7]), ([], []), ([], []), ([9, 10], [9, 10]), ([11], [11]), ([8, 12], [8, 12]), ([13], [13]), ([3, 14, 13], [3, 14]), ([15, 15, 0, 1, 2, 3, 4, 5, 6, 7, 8, 9, 10, 11, 12, 13, 14, 15], [0, 4, 9, 15])])
def tree_root.B16 : List Nat := [0, 0, 2, 7, 0, 0, 32, 112, 240, 0, 0, 1536, 3584, 8176, 16368, 32767, 65535]
theorem tree_root.tab16 : rtab .any (opsOf Tryd.f56 16) = tree_root.T16 := by kernel_rfl
theorem tree_root.bits16 : waitsOk tree_root.T16.2 tree_root.B16 = true := by kernel_rfl
set_option maxHeartbeats 8000000 in
set_option maxRecDepth 100000 in
theorem tree_root.calls (k : Nat) (A0 : Option Addr) (c0 : Nat) (l0 : List ByteArray) (r : ByteArray) (w : World) (hG_ : Aside0 (GW w)) (hr0 : Kd.C Kd.string w A0 l0.length l0) (hc0 : l0.length ≤ c0) (h : tree_root.f k l0 = some r) :
  Calls Tryd.prog 56 #[.slice A0 l0.length c0] w fun e w' => e = .returned (.string r) ∧ Below w.heap.size w w' := by
 have HR0 := zM hr0
 have HC0 := zM hc0
 clear hr0 hc0
 have HB := zM (Below.refl w.heap.size w)
 have H : (if (l0.length : Int) = 0 then ((sha_Sum.f ([] : List Int)).bind fun t104 => (some t104)) else (tree_root.l0 k l0 ([] : List ByteArray) (l0.length : Int) 0)) = some r := h
 clear h
 by_cases c2 : (l0.length : Int) = 0
 ·rw [if_pos c2] at H
  have c2b0 : ((l0.length : Int) == 0) = true := beq_iff_eq.mpr c2; have c2b1 : ((l0.length : Int) != 0) = false := bne_eq_false_iff_eq.mpr c2; clear c2; replace H := zB H; obtain ⟨t104, A30, H⟩ := H; replace H : (some t104) = some r := H; have A3 := zM A30; clear A30; obtain rfl := Option.some.inj H; go_enter Tryd.func56, Tryd.ntmps56; (go_wp2_with (first | ((with_reducible refine gate_callee (f := 51) rfl ?_); refine goesL_ (some 11) rfl rfl Tryd.func51 (by kernel_rfl) rfl #[.slice none 0 0] rfl zm ?_; (refine (sha_Sum.calls _ _ ([] : List Int) t104 _ ?side3 ?side1 ?side2 A3.out).mono ?_); (case side1 => exact Kd.C_nil _ _); (case side2 => exact Nat.le_refl _); (case side3 => exact gw_step hG_ (zb HB.out)); rintro e w4 ⟨rfl, hb⟩; refine ⟨_, rfl, ?_⟩; replace HB := zS HB hb; (try clear hb)))); go_ret; (exact ⟨by first | rfl | (simp [errW_none, errW_some] <;> rfl) | (simp [*, errW_none, errW_some] <;> rfl), zb HB.out⟩)
 ·rw [if_neg c2] at H
  have c2b0 : ((l0.length : Int) == 0) = false := beq_eq_false_iff_ne.mpr c2; have c2b1 : ((l0.length : Int) != 0) = true := bne_iff_ne.mpr c2; (have c2b2 : ¬ (l0 = []) := fun h_ => c2 (by rw [h_]; rfl)); have H' := zM H; clear H; go_enter Tryd.func56, Tryd.ntmps56; go_wp2; (go_loopg [3, 14] k (fun kq v3 v14 w' => ∃ (x3_1 : List ByteArray) (x14_1 : Int), v14 = .int .i64 x14_1 ∧ Aside0 (tree_root.l0 kq l0 x3_1 (l0.length : Int) x14_1 = some r) ∧ Aside0 (kq ≤ k) ∧ Aside0 (Kd.R Kd.string 9 w' w.heap.size (fun _ => True) v3 x3_1) ∧ Aside0 (Below w.heap.size w w')))
  case atStart => exact ⟨(([] : List ByteArray)), (0), zz, H', ⟨Nat.le_refl _⟩, ⟨by first | exact Kd.R_nil _ _ _ _ _ | exact Kd.N_nil _ _ _ _ _ | exact Kd.V_nil _ _ _ _ _ | exact Kd.Q_nil _ _ _ _ _ | exact Kd.S_nil _ _ _ _ _⟩, ⟨zb HB.out⟩⟩
  case round =>
   clear H'; (try clear c2); (try clear c2b0); (try clear c2b1); (try clear c2b2); (try clear p2); obtain ⟨x3_1, x14_1, rfl, HA, HK1, HO_3, HB⟩ := hrel
   cases gk with
   | zero => exact absurd HA.out (by simp [tree_root.l0])
   | succ k1 =>
    have H := HA.out; clear HA; simp only [tree_root.l0] at H
    by_cases c5 : x14_1 < (l0.length : Int)
    ·rw [if_pos c5] at H
     have c5b0 : decide (x14_1 < (l0.length : Int)) = true := decide_eq_true c5; clear c5
     by_cases c6 : 0 ≤ x14_1
     ·rw [if_pos c6] at H
      have c6b0 : decide (0 ≤ x14_1) = true := decide_eq_true c6; clear c6
      by_cases c7 : x14_1 < (l0.length : Int)
      ·rw [if_pos c7] at H
       have c7b0 : decide (x14_1 < (l0.length : Int)) = true := decide_eq_true c7; clear c7
       by_cases c8 : x3_1.length < 8796093022208
       ·rw [if_pos c8] at H
        have LMc8 := zM c8; clear c8; obtain ⟨y106, hy106⟩ : ∃ y_ : List ByteArray, y_ = (x3_1 ++ [rdOf ByteArray.empty l0 x14_1]) := ⟨_, rfl⟩; replace H : (tree_root.l1 k1 l0 y106 (wrap64 (x14_1 + 1)) (l0.length : Int) x14_1) = some r := zh H hy106; have Ny106 := zM hy106; clear hy106; have H' := zM H; clear H; have p105 : 0 ≤ (x14_1 : Int) := zd; have q105 : x14_1 < (l0.length : Int) := zd; obtain ⟨ad105, e105, hx105_0⟩ := Kd.at_string HR0.out x14_1 p105 q105; cases e105; replace hx105_0 := zw HB hx105_0; replace p105 := eq_true p105; replace q105 := eq_true q105; (go_wp2_with (first | ((with_reducible refine gate_builtin (b := .append) (xs := #[.tmp 17, .tmp 22]) rfl ?_); at_builtin; refine Kd.R_append Kd.string (w0 := w) w.heap.size rfl (.tmp 17) (.tmp 22) 22 9 (.string ⟨#[]⟩) 16 rfl Tryd.underlying22 info9 rfl (by decide) (by omega) u3 x3_1 (rdOf ByteArray.empty l0 x14_1) [.string (rdOf ByteArray.empty l0 x14_1)] (fun _ => True) (fun _ => False) rfl rfl ?aP (fun _ hk => hk.elim) ?aF ?aO ?aB ?aS ?aL ?_; (case aP => exact rfl); (case aB => exact (zb HB.out)); (case aF => exact (fun _ _ => trivial)); (case aO => exact (zr HO_3.out)); (case aS => exact (below_size (zb HB.out))); (case aL => have := LMc8.out; omega); intro v107 w9 ho hb hg hat; rw [← Ny106.out] at ho; replace HB := zM (hb); have HO108 := zM (ho); clear HO_3 ho hb hg hat))); (go_loopg [3, 5] k1 (fun kq v3 v5 w' => ∃ (x3_2 : List ByteArray) (x5_2 : Int), v5 = .int .i64 x5_2 ∧ Aside0 (tree_root.l1 kq l0 x3_2 x5_2 (l0.length : Int) x14_1 = some r) ∧ Aside0 (kq ≤ k1) ∧ Aside0 (Kd.R Kd.string 9 w' w.heap.size (fun _ => True) v3 x3_2) ∧ Aside0 (Below w.heap.size w w')))
        case atStart => exact ⟨(y106), (wrap64 (x14_1 + 1)), zz, H', ⟨Nat.le_refl _⟩, ⟨zr HO108.out⟩, ⟨zb HB.out⟩⟩
        case round =>
         clear H'; (try clear p1); (try clear q1); (try clear hx1); (try clear c2); (try clear c2b0); (try clear c2b1); (try clear c2b2); (try clear p2); (try clear c5); (try clear c5b0); (try clear c6); (try clear c6b0); (try clear p6); (try clear c7); (try clear c7b0); (try clear c8); (try clear hx105_0); (try clear p105); (try clear p2); (try clear q105); obtain ⟨x3_2, x5_2, rfl, HA, HK2, HO_3, HB⟩ := hrel
         cases gk with
         | zero => exact absurd HA.out (by simp [tree_root.l1])
         | succ k2 =>
          have H := HA.out; clear HA; simp only [tree_root.l1] at H
          by_cases c10 : (Go.bits .and .i64 x5_2 1) = 0
          ·rw [if_pos c10] at H
           have c10b0 : ((Go.bits .and .i64 x5_2 1) == 0) = true := beq_iff_eq.mpr c10; have c10b1 : ((Go.bits .and .i64 x5_2 1) != 0) = false := bne_eq_false_iff_eq.mpr c10; clear c10; obtain ⟨ji11, hji11⟩ : ∃ j_ : Int, (wrap64 ((wrap64 ((x3_2.length : Int) - 1)) - 1)) = j_ := ⟨_, rfl⟩; (replace H : (if 0 ≤ (ji11) then (if (ji11) < (x3_2.length : Int) then (if 0 ≤ (wrap64 ((x3_2.length : Int) - 1)) then (if (wrap64 ((x3_2.length : Int) - 1)) < (x3_2.length : Int) then ((tree_node.f k2 (rdOf ByteArray.empty x3_2 (ji11)) (rdOf ByteArray.empty x3_2 (wrap64 ((x3_2.length : Int) - 1)))).bind fun t111 => (if (ji11) ≤ (x3_2.length : Int) then ((some (x3_2.take ((ji11) : Int).toNat : List ByteArray)).bind fun y112 => (if y112.length < 8796093022208 then (tree_root.l1 k2 l0 (y112 ++ [t111]) (x5_2 / 2) (l0.length : Int) x14_1) else (none))) else (none))) else (none)) else (none)) else (none)) else (none)) = some r := by first | (rw [hji11] at H; exact H) | (simp only [hji11] at H ⊢; exact H)); have hji11w : (IntKind.i64.wrap ((wrap64 ((x3_2.length : Int) - 1)) - 1)) = ji11 := (i64_w _).trans hji11
           by_cases c12 : 0 ≤ (ji11)
           ·rw [if_pos c12] at H
            have c12b0 : decide (0 ≤ (ji11)) = true := decide_eq_true c12; clear c12
            by_cases c13 : (ji11) < (x3_2.length : Int)
            ·rw [if_pos c13] at H
             have c13b0 : decide ((ji11) < (x3_2.length : Int)) = true := decide_eq_true c13; clear c13; obtain ⟨ji14, hji14⟩ : ∃ j_ : Int, (wrap64 ((x3_2.length : Int) - 1)) = j_ := ⟨_, rfl⟩; (replace H : (if 0 ≤ (ji14) then (if (ji14) < (x3_2.length : Int) then ((tree_node.f k2 (rdOf ByteArray.empty x3_2 (ji11)) (rdOf ByteArray.empty x3_2 (ji14))).bind fun t111 => (if (ji11) ≤ (x3_2.length : Int) then ((some (x3_2.take ((ji11) : Int).toNat : List ByteArray)).bind fun y112 => (if y112.length < 8796093022208 then (tree_root.l1 k2 l0 (y112 ++ [t111]) (x5_2 / 2) (l0.length : Int) x14_1) else (none))) else (none))) else (none)) else (none)) = some r := by first | (rw [hji14] at H; exact H) | (simp only [hji14] at H ⊢; exact H)); (try rw [hji14] at hji11); (try rw [hji14] at hji11w); have hji14w : (IntKind.i64.wrap ((x3_2.length : Int) - 1)) = ji14 := (i64_w _).trans hji14
             by_cases c15 : 0 ≤ (ji14)
             ·rw [if_pos c15] at H
              have c15b0 : decide (0 ≤ (ji14)) = true := decide_eq_true c15; clear c15
              by_cases c16 : (ji14) < (x3_2.length : Int)
              ·rw [if_pos c16] at H
               have c16b0 : decide ((ji14) < (x3_2.length : Int)) = true := decide_eq_true c16; clear c16; replace H := zB H; obtain ⟨t111, A170, H⟩ := H; (replace H : (if (ji11) ≤ (x3_2.length : Int) then ((some (x3_2.take ((ji11) : Int).toNat : List ByteArray)).bind fun y112 => (if y112.length < 8796093022208 then (tree_root.l1 k2 l0 (y112 ++ [t111]) (x5_2 / 2) (l0.length : Int) x14_1) else (none))) else (none)) = some r := H); have A17 := zM A170; clear A170
               by_cases c18 : (ji11) ≤ (x3_2.length : Int)
               ·rw [if_pos c18] at H
                have c18b0 := eq_true c18; have c18b1 : decide ((ji11) ≤ (x3_2.length : Int)) = true := decide_eq_true c18; clear c18; obtain ⟨y112, hy112⟩ : ∃ y_ : List ByteArray, y_ = (x3_2.take ((ji11) : Int).toNat) := ⟨_, rfl⟩; (replace H : (if y112.length < 8796093022208 then (tree_root.l1 k2 l0 (y112 ++ [t111]) (x5_2 / 2) (l0.length : Int) x14_1) else (none)) = some r := zh H hy112); have Ny112 := zM hy112; clear hy112
                by_cases c19 : y112.length < 8796093022208
                ·rw [if_pos c19] at H
                 have LMc19 := zM c19; clear c19; obtain ⟨y115, hy115⟩ : ∃ y_ : List ByteArray, y_ = (y112 ++ [t111]) := ⟨_, rfl⟩; replace H : (tree_root.l1 k2 l0 y115 (x5_2 / 2) (l0.length : Int) x14_1) = some r := zh H hy115; have Ny115 := zM hy115; clear hy115; have H' := zM H; clear H; obtain ⟨Ao20, co20, eo20⟩ := Kd.R_slice HO_3.out; subst eo20; (try go_wp2); replace HO_3 := zM (Kd.R_drew HO_3.out); replace HB := zM (below_drew1 HB.out); have p109 : 0 ≤ ((ji11) : Int) := zd; have q109 : (ji11) < (x3_2.length : Int) := zd; obtain ⟨ad109, e109, hx109_0⟩ := Kd.at_string (Kd.R_reads' HO_3.out).2.2 (ji11) p109 q109; cases e109; replace p109 := eq_true p109; replace q109 := eq_true q109; have p110 : 0 ≤ ((ji14) : Int) := zd; have q110 : (ji14) < (x3_2.length : Int) := zd; obtain ⟨ad110, e110, hx110_0⟩ := Kd.at_string (Kd.R_reads' HO_3.out).2.2 (ji14) p110 q110; (obtain rfl : ad109 = ad110 := (by injection e110)); replace p110 := eq_true p110; replace q110 := eq_true q110; have q22 : ((ji11) : Int) ≤ ((x3_2.length : Int) : Int) := zd; obtain ⟨i022, hi022, _, hsz22, _⟩ := info_parts info9; have hcut22 := cut_to (P := Tryd.prog) 22 9 .i64 Tryd.underlying22 hi022 (some ad109) x3_2.length co20 (ji11) (zd) q22 (Kd.R_reads' HO_3.out).2.1; (have hr22 := Kd.R_take (m := ((ji11) : Int).toNat) HO_3.out (by omega)); (have hy22 : y112.length = ((ji11) : Int).toNat := (by rw [Ny112.out, List.length_take]; omega)); rw [← Ny112.out] at hr22; rw [← hy22] at hr22 hcut22; clear hy22 hi022 hsz22 HO_3; have HO114 := zM hr22; clear hr22; replace q22 := eq_true q22; (refine start_ (n := 17) (S := fun w' => w'.cell? (ad109.add ((ji11)).toNat) = some (.string (rdOf ByteArray.empty x3_2 (ji11))) ∧ w'.cell? (ad109.add ((ji14)).toNat) = some (.string (rdOf ByteArray.empty x3_2 (ji14)))) (ds := [14, 15]) #[false, false, false, false, false, false, false, false, false, false, false, false, false, false, false, false, false] (by kernel_rfl) rfl rfl ⟨hx109_0, hx110_0⟩ (fun hHeld => ?_); refine with_tabW tree_root.tab12 tree_root.bits12 (fun HT_ HW_ => ?_)); (generalize wr.drew = w21 at HB HO114 hx109_0 hx110_0 hHeld ⊢); (refine HBulk.bulkT (fuel := 4) HT_.out HW_.out [(0, some 34, false), (1, some 35, false), (2, some 36, false), (3, some 37, false), (4, some 38, false), (5, some 39, false), (6, some 40, false), (7, some 41, false), (9, some 43, false), (10, some 44, false), (11, some 45, false), (8, some 42, true), (12, some 46, true)] #[true, true, true, true, true, true, true, true, true, true, true, true, true, false, false, false, false] (a' := ?_) (by kernel_rfl) rfl hHeld ?_ ?_); rotate_left
                 ·repeat
                   (refine HBulk.RunsM.cons (v := ?_) (a1 := ?_) rfl rfl (fun _ _ _ h => h) (by rfl) ?_ ?_ ?_); rotate_left
                   ·intro w' hS_; (try (obtain ⟨s0, s1⟩ := hS_ rfl))
                    go_simp; (with_reducible rfl)
                   rotate_left
                   ·simp only [Act.put, zl, i64_w, i32_w]
                    rfl
                  exact HBulk.RunsM.nil
                 (refine one_ (i := 13) (N := some 47) #[true, true, true, true, true, true, true, true, true, true, true, true, true, true, false, false, false] rfl rfl (one_of HT_.out (by kernel_rfl)) (by decide) (fun K hK => ?_)); (refine goes_ Tryd.func68 (by kernel_rfl) rfl #[.string (rdOf ByteArray.empty x3_2 (ji11)), .string (rdOf ByteArray.empty x3_2 (ji14))] (by rfl) rfl rfl (by (try simp only [List.map_toArray, List.map_cons, List.map_nil]); first | done | (simp only [hji11, hji14]; rfl) | rfl | (simp only [List.length_drop, List.length_take]; rfl)) ?_); (with_reducible refine (tree_node.calls k2 (rdOf ByteArray.empty x3_2 (ji11)) (rdOf ByteArray.empty x3_2 (ji14)) t111 _ ?side1 A17.out).mono ?_); (case side1 => exact gw_step hG_ (zb HB.out)); rintro e w23 ⟨rfl, hb⟩; have HS0_ := (hb.cell (World.block_lt_of_cell? _ _ (hHeld.1))).trans (hHeld.1); have HS1_ := (hb.cell (World.block_lt_of_cell? _ _ (hHeld.2))).trans (hHeld.2); refine ⟨_, rfl, ?_⟩; replace HO114 := zR HO114 hb; replace HB := zS HB hb; (try clear hb); (refine hK.out _ _ ⟨HS0_, HS1_⟩ (fun hHeld => ?_)); clear hK K; refine norm_ (a' := ?_) ?_ ?_; rotate_left
                 ·show Act.put _ (some 47) _ = _
                  simp only [Act.put, zl, i64_w, i32_w]; rfl
                 (refine last_ (i := 14) (N := some 48) #[true, true, true, true, true, true, true, true, true, true, true, true, true, true, true, false, false] rfl rfl (one_of HT_.out (by kernel_rfl)) (by decide) (fun K hK => ?_)); (refine value_ (w1 := ?_) (v := ?_) (by rfl) rfl ?_ ?_); rotate_left 2
                 ·go_simp
                  constructor
                  ·rfl
                  ·rfl
                 refine hK.out _ _ ?_; clear hK K; refine norm_ (a' := ?_) ?_ ?_; rotate_left
                 ·show Act.put _ (some 48) _ = _
                  simp only [Act.put, zl, i64_w, i32_w]; rfl
                 (refine last_ (i := 15) (N := some 49) #[true, true, true, true, true, true, true, true, true, true, true, true, true, true, true, true, false] rfl rfl (one_of HT_.out (by kernel_rfl)) (by decide) (fun K hK => ?_)); (refine Kd.R_append_step Kd.string (w0 := w) w.heap.size (by rfl) (.tmp 37) (.tmp 48) 22 9 (.string ⟨#[]⟩) 16 rfl Tryd.underlying22 info9 rfl (by decide) (by omega) (.slice (some ad109) y112.length co20) y112 t111 [.string t111] (fun _ => True) (fun _ => False) rfl rfl ?aP (fun _ hk => hk.elim) ?aF ?aO ?aB ?aS ?aL ?_); (case aP => exact rfl); (case aB => exact (zb HB.out)); (case aF => exact (fun _ _ => trivial)); (case aO => exact (zr HO114.out)); (case aS => exact (below_size (zb HB.out))); (case aL => have := LMc19.out; omega); intro v116 w24 ho hb hg hat; rw [← Ny115.out] at ho; replace HB := zM (hb); have HO117 := zM (ho); clear HO114 ho hb hg hat; refine hK.out _ _ ?_; clear hK K; refine norm_ (a' := ?_) ?_ ?_; rotate_left
                 ·show Act.put _ (some 49) _ = _
                  simp only [Act.put, zl, i64_w, i32_w]; rfl
                 (refine pure_ (i := 16) (N := some 3) (v := ?_) (a' := ?_) #[true, true, true, true, true, true, true, true, true, true, true, true, true, true, true, true, true] rfl rfl (any_of HT_.out (by kernel_rfl)) (fun _ _ _ h => h) (Or.inl ⟨by rfl, ?_⟩) ?_ ?_); rotate_left
                 ·intro w'
                  go_simp; (with_reducible rfl)
                 rotate_left
                 ·simp only [Act.put, zl, i64_w, i32_w]
                  rfl
                 (refine done_ (done_of HT_.out (by kernel_rfl)) ?_); (try go_wp2); go_roundg k2
                 case measure => have := HK1.out; have := HK2.out; omega
                 case rel => exact ⟨(y115), (x5_2 / 2), zz, H', ⟨by have := HK1.out; have := HK2.out; omega⟩, ⟨zr HO117.out⟩, ⟨zb HB.out⟩⟩
                ·rw [if_neg c19] at H
                 exact absurd H (by simp)
               ·rw [if_neg c18] at H
                exact absurd H (by simp)
              ·rw [if_neg c16] at H
               exact absurd H (by simp)
             ·rw [if_neg c15] at H
              exact absurd H (by simp)
            ·rw [if_neg c13] at H
             exact absurd H (by simp)
           ·rw [if_neg c12] at H
            exact absurd H (by simp)
          ·rw [if_neg c10] at H
           have c10b0 : ((Go.bits .and .i64 x5_2 1) == 0) = false := beq_eq_false_iff_ne.mpr c10; have c10b1 : ((Go.bits .and .i64 x5_2 1) != 0) = true := bne_iff_ne.mpr c10; have H' := zM H; clear H; go_wp2; go_roundg k2
           case measure => have := HK1.out; have := HK2.out; omega
           case rel => exact ⟨(x3_2), (wrap64 (x14_1 + 1)), zz, H', ⟨by have := HK1.out; have := HK2.out; omega⟩, ⟨zr HO_3.out⟩, ⟨zb HB.out⟩⟩
       ·rw [if_neg c8] at H
        exact absurd H (by simp)
      ·rw [if_neg c7] at H
       exact absurd H (by simp)
     ·rw [if_neg c6] at H
      exact absurd H (by simp)
    ·rw [if_neg c5] at H
     have c5b0 : decide (x14_1 < (l0.length : Int)) = false := decide_eq_false c5; clear c5; have H' := zM H; clear H; go_wp2; (go_loopg [3] k1 (fun kq v3 w' => ∃ (x3_2 : List ByteArray), Aside0 (tree_root.l2 kq x3_2 = some r) ∧ Aside0 (kq ≤ k1) ∧ Aside0 (Kd.R Kd.string 9 w' w.heap.size (fun _ => True) v3 x3_2) ∧ Aside0 (Below w.heap.size w w')))
     case atStart => exact ⟨(x3_1), H', ⟨Nat.le_refl _⟩, ⟨zr HO_3.out⟩, ⟨zb HB.out⟩⟩
     case round =>
      clear H'; (try clear c1); (try clear p1); (try clear q1); (try clear hx1); (try clear c2); (try clear c2b0); (try clear c2b1); (try clear c2b2); (try clear p2); (try clear q2); (try clear c5); (try clear c5b0); (try clear c6); (try clear c6b0); (try clear p6); (try clear c7); (try clear c7b0); (try clear c8); (try clear c10); (try clear c10b0); (try clear c10b1); (try clear p10); (try clear q10); (try clear hx10); (try clear p11); (try clear q11); (try clear hx11); (try clear c12); (try clear c12b0); (try clear c13); (try clear c13b0); (try clear c15); (try clear c15b0); (try clear c16); (try clear c16b0); (try clear c18); (try clear c18b0); (try clear c18b1); (try clear c19); (try clear q22); (try clear hx105_0); (try clear hx109_0); (try clear hx110_0); (try clear p1); (try clear p105); (try clear p109); (try clear p110); (try clear p2); (try clear p6); (try clear q1); (try clear q105); (try clear q109); (try clear q110); (try clear q22); obtain ⟨x3_2, HA, HK2, HO_3, HB⟩ := hrel
      cases gk with
      | zero => exact absurd HA.out (by simp [tree_root.l2])
      | succ k2 =>
       have H := HA.out; clear HA; simp only [tree_root.l2] at H
       by_cases c25 : (x3_2.length : Int) > 1
       ·rw [if_pos c25] at H
        have c25b0 : decide (1 < (x3_2.length : Int)) = true := decide_eq_true c25; (have c25b1 : decide (1 < x3_2.length) = true := decide_eq_true (by omega)); clear c25; obtain ⟨ji26, hji26⟩ : ∃ j_ : Int, (wrap64 ((wrap64 ((x3_2.length : Int) - 1)) - 1)) = j_ := ⟨_, rfl⟩; (replace H : (if 0 ≤ (ji26) then (if (ji26) < (x3_2.length : Int) then (if 0 ≤ (wrap64 ((x3_2.length : Int) - 1)) then (if (wrap64 ((x3_2.length : Int) - 1)) < (x3_2.length : Int) then ((tree_node.f k2 (rdOf ByteArray.empty x3_2 (ji26)) (rdOf ByteArray.empty x3_2 (wrap64 ((x3_2.length : Int) - 1)))).bind fun t120 => (if (ji26) ≤ (x3_2.length : Int) then ((some (x3_2.take ((ji26) : Int).toNat : List ByteArray)).bind fun y121 => (if y121.length < 8796093022208 then (tree_root.l2 k2 (y121 ++ [t120])) else (none))) else (none))) else (none)) else (none)) else (none)) else (none)) = some r := by first | (rw [hji26] at H; exact H) | (simp only [hji26] at H ⊢; exact H)); have hji26w : (IntKind.i64.wrap ((wrap64 ((x3_2.length : Int) - 1)) - 1)) = ji26 := (i64_w _).trans hji26
        by_cases c27 : 0 ≤ (ji26)
        ·rw [if_pos c27] at H
         have c27b0 : decide (0 ≤ (ji26)) = true := decide_eq_true c27; clear c27
         by_cases c28 : (ji26) < (x3_2.length : Int)
         ·rw [if_pos c28] at H
          have c28b0 : decide ((ji26) < (x3_2.length : Int)) = true := decide_eq_true c28; clear c28; obtain ⟨ji29, hji29⟩ : ∃ j_ : Int, (wrap64 ((x3_2.length : Int) - 1)) = j_ := ⟨_, rfl⟩; (replace H : (if 0 ≤ (ji29) then (if (ji29) < (x3_2.length : Int) then ((tree_node.f k2 (rdOf ByteArray.empty x3_2 (ji26)) (rdOf ByteArray.empty x3_2 (ji29))).bind fun t120 => (if (ji26) ≤ (x3_2.length : Int) then ((some (x3_2.take ((ji26) : Int).toNat : List ByteArray)).bind fun y121 => (if y121.length < 8796093022208 then (tree_root.l2 k2 (y121 ++ [t120])) else (none))) else (none))) else (none)) else (none)) = some r := by first | (rw [hji29] at H; exact H) | (simp only [hji29] at H ⊢; exact H)); (try rw [hji29] at hji26); (try rw [hji29] at hji26w); have hji29w : (IntKind.i64.wrap ((x3_2.length : Int) - 1)) = ji29 := (i64_w _).trans hji29
          by_cases c30 : 0 ≤ (ji29)
          ·rw [if_pos c30] at H
           have c30b0 : decide (0 ≤ (ji29)) = true := decide_eq_true c30; clear c30
           by_cases c31 : (ji29) < (x3_2.length : Int)
           ·rw [if_pos c31] at H
            have c31b0 : decide ((ji29) < (x3_2.length : Int)) = true := decide_eq_true c31; clear c31; replace H := zB H; obtain ⟨t120, A320, H⟩ := H; (replace H : (if (ji26) ≤ (x3_2.length : Int) then ((some (x3_2.take ((ji26) : Int).toNat : List ByteArray)).bind fun y121 => (if y121.length < 8796093022208 then (tree_root.l2 k2 (y121 ++ [t120])) else (none))) else (none)) = some r := H); have A32 := zM A320; clear A320
            by_cases c33 : (ji26) ≤ (x3_2.length : Int)
            ·rw [if_pos c33] at H
             have c33b0 := eq_true c33; have c33b1 : decide ((ji26) ≤ (x3_2.length : Int)) = true := decide_eq_true c33; clear c33; obtain ⟨y121, hy121⟩ : ∃ y_ : List ByteArray, y_ = (x3_2.take ((ji26) : Int).toNat) := ⟨_, rfl⟩; (replace H : (if y121.length < 8796093022208 then (tree_root.l2 k2 (y121 ++ [t120])) else (none)) = some r := zh H hy121); have Ny121 := zM hy121; clear hy121
             by_cases c34 : y121.length < 8796093022208
             ·rw [if_pos c34] at H
              have LMc34 := zM c34; clear c34; obtain ⟨y124, hy124⟩ : ∃ y_ : List ByteArray, y_ = (y121 ++ [t120]) := ⟨_, rfl⟩; replace H : (tree_root.l2 k2 y124) = some r := zh H hy124; have Ny124 := zM hy124; clear hy124; have H' := zM H; clear H; obtain ⟨Ao35, co35, eo35⟩ := Kd.R_slice HO_3.out; subst eo35; (try go_wp2); replace HO_3 := zM (Kd.R_drew HO_3.out); replace HB := zM (below_drew1 HB.out); have p118 : 0 ≤ ((ji26) : Int) := zd; have q118 : (ji26) < (x3_2.length : Int) := zd; obtain ⟨ad118, e118, hx118_0⟩ := Kd.at_string (Kd.R_reads' HO_3.out).2.2 (ji26) p118 q118; cases e118; replace p118 := eq_true p118; replace q118 := eq_true q118; have p119 : 0 ≤ ((ji29) : Int) := zd; have q119 : (ji29) < (x3_2.length : Int) := zd; obtain ⟨ad119, e119, hx119_0⟩ := Kd.at_string (Kd.R_reads' HO_3.out).2.2 (ji29) p119 q119; (obtain rfl : ad118 = ad119 := (by injection e119)); replace p119 := eq_true p119; replace q119 := eq_true q119; have q37 : ((ji26) : Int) ≤ ((x3_2.length : Int) : Int) := zd; obtain ⟨i037, hi037, _, hsz37, _⟩ := info_parts info9; have hcut37 := cut_to (P := Tryd.prog) 22 9 .i64 Tryd.underlying22 hi037 (some ad118) x3_2.length co35 (ji26) (zd) q37 (Kd.R_reads' HO_3.out).2.1; (have hr37 := Kd.R_take (m := ((ji26) : Int).toNat) HO_3.out (by omega)); (have hy37 : y121.length = ((ji26) : Int).toNat := (by rw [Ny121.out, List.length_take]; omega)); rw [← Ny121.out] at hr37; rw [← hy37] at hr37 hcut37; clear hy37 hi037 hsz37 HO_3; have HO123 := zM hr37; clear hr37; replace q37 := eq_true q37; (refine start_ (n := 17) (S := fun w' => w'.cell? (ad118.add ((ji26)).toNat) = some (.string (rdOf ByteArray.empty x3_2 (ji26))) ∧ w'.cell? (ad118.add ((ji29)).toNat) = some (.string (rdOf ByteArray.empty x3_2 (ji29)))) (ds := [14, 15]) #[false, false, false, false, false, false, false, false, false, false, false, false, false, false, false, false, false] (by kernel_rfl) rfl rfl ⟨hx118_0, hx119_0⟩ (fun hHeld => ?_); refine with_tabW tree_root.tab16 tree_root.bits16 (fun HT_ HW_ => ?_)); (generalize wr.drew = w36 at HB HO123 hx118_0 hx119_0 hHeld ⊢); (refine HBulk.bulkT (fuel := 4) HT_.out HW_.out [(0, some 57, false), (1, some 58, false), (2, some 59, false), (3, some 60, false), (4, some 61, false), (5, some 62, false), (6, some 63, false), (7, some 64, false), (9, some 66, false), (10, some 67, false), (11, some 68, false), (8, some 65, true), (12, some 69, true)] #[true, true, true, true, true, true, true, true, true, true, true, true, true, false, false, false, false] (a' := ?_) (by kernel_rfl) rfl hHeld ?_ ?_); rotate_left
              ·repeat
                (refine HBulk.RunsM.cons (v := ?_) (a1 := ?_) rfl rfl (fun _ _ _ h => h) (by rfl) ?_ ?_ ?_); rotate_left
                ·intro w' hS_; (try (obtain ⟨s0, s1⟩ := hS_ rfl))
                 go_simp; (with_reducible rfl)
                rotate_left
                ·simp only [Act.put, zl, i64_w, i32_w]
                 rfl
               exact HBulk.RunsM.nil
              (refine one_ (i := 13) (N := some 70) #[true, true, true, true, true, true, true, true, true, true, true, true, true, true, false, false, false] rfl rfl (one_of HT_.out (by kernel_rfl)) (by decide) (fun K hK => ?_)); (refine goes_ Tryd.func68 (by kernel_rfl) rfl #[.string (rdOf ByteArray.empty x3_2 (ji26)), .string (rdOf ByteArray.empty x3_2 (ji29))] (by rfl) rfl rfl (by (try simp only [List.map_toArray, List.map_cons, List.map_nil]); first | done | (simp only [hji26, hji29]; rfl) | rfl | (simp only [List.length_drop, List.length_take]; rfl)) ?_); (with_reducible refine (tree_node.calls k2 (rdOf ByteArray.empty x3_2 (ji26)) (rdOf ByteArray.empty x3_2 (ji29)) t120 _ ?side1 A32.out).mono ?_); (case side1 => exact gw_step hG_ (zb HB.out)); rintro e w38 ⟨rfl, hb⟩; have HS0_ := (hb.cell (World.block_lt_of_cell? _ _ (hHeld.1))).trans (hHeld.1); have HS1_ := (hb.cell (World.block_lt_of_cell? _ _ (hHeld.2))).trans (hHeld.2); refine ⟨_, rfl, ?_⟩; replace HO123 := zR HO123 hb; replace HB := zS HB hb; (try clear hb); (refine hK.out _ _ ⟨HS0_, HS1_⟩ (fun hHeld => ?_)); clear hK K; refine norm_ (a' := ?_) ?_ ?_; rotate_left
              ·show Act.put _ (some 70) _ = _
               simp only [Act.put, zl, i64_w, i32_w]; rfl
              (refine last_ (i := 14) (N := some 71) #[true, true, true, true, true, true, true, true, true, true, true, true, true, true, true, false, false] rfl rfl (one_of HT_.out (by kernel_rfl)) (by decide) (fun K hK => ?_)); (refine value_ (w1 := ?_) (v := ?_) (by rfl) rfl ?_ ?_); rotate_left 2
              ·go_simp
               constructor
               ·rfl
               ·rfl
              refine hK.out _ _ ?_; clear hK K; refine norm_ (a' := ?_) ?_ ?_; rotate_left
              ·show Act.put _ (some 71) _ = _
               simp only [Act.put, zl, i64_w, i32_w]; rfl
              (refine last_ (i := 15) (N := some 72) #[true, true, true, true, true, true, true, true, true, true, true, true, true, true, true, true, false] rfl rfl (one_of HT_.out (by kernel_rfl)) (by decide) (fun K hK => ?_)); (refine Kd.R_append_step Kd.string (w0 := w) w.heap.size (by rfl) (.tmp 60) (.tmp 71) 22 9 (.string ⟨#[]⟩) 16 rfl Tryd.underlying22 info9 rfl (by decide) (by omega) (.slice (some ad118) y121.length co35) y121 t120 [.string t120] (fun _ => True) (fun _ => False) rfl rfl ?aP (fun _ hk => hk.elim) ?aF ?aO ?aB ?aS ?aL ?_); (case aP => exact rfl); (case aB => exact (zb HB.out)); (case aF => exact (fun _ _ => trivial)); (case aO => exact (zr HO123.out)); (case aS => exact (below_size (zb HB.out))); (case aL => have := LMc34.out; omega); intro v125 w39 ho hb hg hat; rw [← Ny124.out] at ho; replace HB := zM (hb); have HO126 := zM (ho); clear HO123 ho hb hg hat; refine hK.out _ _ ?_; clear hK K; refine norm_ (a' := ?_) ?_ ?_; rotate_left
              ·show Act.put _ (some 72) _ = _
               simp only [Act.put, zl, i64_w, i32_w]; rfl
              (refine pure_ (i := 16) (N := some 3) (v := ?_) (a' := ?_) #[true, true, true, true, true, true, true, true, true, true, true, true, true, true, true, true, true] rfl rfl (any_of HT_.out (by kernel_rfl)) (fun _ _ _ h => h) (Or.inl ⟨by rfl, ?_⟩) ?_ ?_); rotate_left
              ·intro w'
               go_simp; (with_reducible rfl)
              rotate_left
              ·simp only [Act.put, zl, i64_w, i32_w]
               rfl
              (refine done_ (done_of HT_.out (by kernel_rfl)) ?_); (try go_wp2); go_roundg k2
              case measure => have := HK1.out; have := HK2.out; omega
              case rel => exact ⟨(y124), H', ⟨by have := HK1.out; have := HK2.out; omega⟩, ⟨zr HO126.out⟩, ⟨zb HB.out⟩⟩
             ·rw [if_neg c34] at H
              exact absurd H (by simp)
            ·rw [if_neg c33] at H
             exact absurd H (by simp)
           ·rw [if_neg c31] at H
            exact absurd H (by simp)
          ·rw [if_neg c30] at H
           exact absurd H (by simp)
         ·rw [if_neg c28] at H
          exact absurd H (by simp)
        ·rw [if_neg c27] at H
         exact absurd H (by simp)
       ·rw [if_neg c25] at H
        have c25b0 : decide (1 < (x3_2.length : Int)) = false := decide_eq_false c25; (have c25b1 : decide (1 < x3_2.length) = false := decide_eq_false (by omega)); clear c25
        by_cases c40 : 0 < (x3_2.length : Int)
        ·rw [if_pos c40] at H
         have c40b0 : decide (0 < (x3_2.length : Int)) = true := decide_eq_true c40; (have c40b1 : decide (0 < x3_2.length) = true := decide_eq_true (by omega)); clear c40; obtain rfl := Option.some.inj H; obtain ⟨Ao41, co41, eo41⟩ := Kd.R_slice HO_3.out; subst eo41; (have p127 : 0 ≤ (0 : Int) := (by omega)); have q127 : 0 < (x3_2.length : Int) := zd; obtain ⟨ad127, e127, hx127_0⟩ := Kd.at_string (Kd.R_reads' HO_3.out).2.2 0 p127 q127; cases e127; (have qi127 : (0 < x3_2.length) = True := eq_true (by omega)); (try rw [show ((0 : Int)).toNat = 0 from rfl] at hx127_0); (try rw [Addr.add_zero'] at hx127_0); replace p127 := eq_true p127; replace q127 := eq_true q127; go_wp2; go_ret; (exact ⟨by first | rfl | (simp [errW_none, errW_some] <;> rfl) | (simp [*, errW_none, errW_some] <;> rfl), zb HB.out⟩)
        ·rw [if_neg c40] at H
         exact absurd H (by simp)
end Go.Proofs.YtpmefpdafkbphaaDoor.PB
namespace Go.Proofs.YtpmefpdafkbphaaDoor.PB
open HZ Go.RowKit Go.Proofs.YtpmefpdafkbphaaDoor HSha PS PR PT Go.Proofs.YtpmefpdafkbphaaDoorW.PrintWords Go.Proofs.YtpmefpdafkbphaaDoorW.PrintLast Go.Proofs.YtpmefpdafkbphaaDoorW.PrintMore
attribute [local go_sem] max2_int min2_int max_two min_two max_three min_three max_four min_four
set_option linter.unusedVariables false
set_option linter.unusedSimpArgs false
def tree_Root.f (k : Nat) (l0 : List ByteArray) : Option (ByteArray × Int) := (tree_all.f k l0).bind fun t128 => (if t128 = true then ((tree_root.f k l0).bind fun t129 => (some (t129, 0))) else (some ((⟨#[]⟩ : ByteArray), 1)))
theorem tree_Root.mono : ∀ a0 k, LeO (tree_Root.f k a0) (tree_Root.f (k + 1) a0) := by
 intro a0 k
 unfold tree_Root.f
 repeat' first
   | (with_reducible exact tree_all.mono _ _)
   | (with_reducible exact tree_root.mono _ _)
   | (with_reducible exact LeO.refl _)
   | (with_reducible exact LeO.none _)
   | (with_reducible refine LeO.ite ?_ ?_)
   | (with_reducible refine LeO.bind ?_ (fun _ => ?_))
set_option maxHeartbeats 8000000 in
set_option maxRecDepth 100000 in
theorem tree_Root.calls (k : Nat) (A0 : Option Addr) (c0 : Nat) (l0 : List ByteArray) (r1 : ByteArray) (r2 : Int) (w : World) (hG_ : Aside0 (GW w)) (hr0 : Kd.C Kd.string w A0 l0.length l0) (hc0 : l0.length ≤ c0) (h : tree_Root.f k l0 = some (r1, r2)) :
  Calls Tryd.prog 24 #[.slice A0 l0.length c0] w fun e w' => e = .returned (.tuple #[.string r1, .int .i64 r2]) ∧ Below w.heap.size w w' := by
 have HR0 := zM hr0
 have HC0 := zM hc0
 clear hr0 hc0
 have HB := zM (Below.refl w.heap.size w)
 have H : ((tree_all.f k l0).bind fun t128 => (if t128 = true then ((tree_root.f k l0).bind fun t129 => (some (t129, 0))) else (some ((⟨#[]⟩ : ByteArray), 1)))) = some (r1, r2) := h
 clear h
 replace H := zB H
 obtain ⟨t128, A20, H⟩ := H
 replace H : (if t128 = true then ((tree_root.f k l0).bind fun t129 => (some (t129, 0))) else (some ((⟨#[]⟩ : ByteArray), 1))) = some (r1, r2) := H
 have A2 := zM A20
 clear A20
 by_cases c3 : t128 = true
 ·subst c3
  (have H1 : ((tree_root.f k l0).bind fun t129 => (some (t129, 0))) = some (r1, r2) := by rw [if_pos rfl] at H; exact H); clear H; have H := H1; clear H1; replace H := zB H; obtain ⟨t129, A40, H⟩ := H; replace H : (some (t129, 0)) = some (r1, r2) := H; have A4 := zM A40; clear A40; simp only [Option.some.injEq, Prod.mk.injEq] at H; obtain ⟨rfl, rfl⟩ := H; go_enter Tryd.func24, Tryd.ntmps24; (go_wp2_with (first | ((with_reducible refine gate_callee (f := 55) rfl ?_); refine goesL_ (some 5) rfl rfl Tryd.func55 (by kernel_rfl) rfl #[.slice A0 l0.length c0] rfl zm ?_; (with_reducible refine (tree_all.calls k _ _ l0 true _ ?side1 ?side2 A2.out).mono ?_); (case side1 => repeat (first | exact HR0.out | (with_reducible refine Kd.C_alloc ?_ _) | (with_reducible refine Kd.C_drewN ?_ _) | (with_reducible refine Kd.C_drew ?_))); (case side2 => exact HC0.out); rintro e w' ⟨rfl, ⟨nd, rfl⟩⟩; refine ⟨_, rfl, ?_⟩) | ((with_reducible refine gate_callee (f := 56) rfl ?_); refine goesL_ (some 8) rfl rfl Tryd.func56 (by kernel_rfl) rfl #[.slice A0 l0.length c0] rfl zm ?_; (with_reducible refine (tree_root.calls k _ _ l0 t129 _ ?side3 ?side1 ?side2 A4.out).mono ?_); (case side1 => repeat (first | exact HR0.out | (with_reducible refine Kd.C_alloc ?_ _) | (with_reducible refine Kd.C_drewN ?_ _) | (with_reducible refine Kd.C_drew ?_))); (case side2 => exact HC0.out); (case side3 => exact gw_step hG_ (zb HB.out)); rintro e w5 ⟨rfl, hb⟩; refine ⟨_, rfl, ?_⟩; replace HB := zS HB hb; (try clear hb)))); go_ret2; (exact ⟨by first | rfl | (simp [errW_none, errW_some] <;> rfl) | (simp [*, errW_none, errW_some] <;> rfl), zb HB.out⟩)
 ·replace c3 := Bool.eq_false_iff.mpr c3
  subst c3; (have H1 : (some ((⟨#[]⟩ : ByteArray), 1)) = some (r1, r2) := by rw [if_neg (show ¬ (false = true) by decide)] at H; exact H); clear H; have H := H1; clear H1; simp only [Option.some.injEq, Prod.mk.injEq] at H; obtain ⟨rfl, rfl⟩ := H; go_enter Tryd.func24, Tryd.ntmps24; (go_wp2_with (first | ((with_reducible refine gate_callee (f := 55) rfl ?_); refine goesL_ (some 5) rfl rfl Tryd.func55 (by kernel_rfl) rfl #[.slice A0 l0.length c0] rfl zm ?_; (with_reducible refine (tree_all.calls k _ _ l0 false _ ?side1 ?side2 A2.out).mono ?_); (case side1 => repeat (first | exact HR0.out | (with_reducible refine Kd.C_alloc ?_ _) | (with_reducible refine Kd.C_drewN ?_ _) | (with_reducible refine Kd.C_drew ?_))); (case side2 => exact HC0.out); rintro e w' ⟨rfl, ⟨nd, rfl⟩⟩; refine ⟨_, rfl, ?_⟩))); go_ret2; (exact ⟨by first | rfl | (simp [errW_none, errW_some] <;> rfl) | (simp [*, errW_none, errW_some] <;> rfl), zb HB.out⟩)
mutual
def tree_Split.j0 : Nat → Int → Bool → Option (Int)
 | 0, _, _ => none
 | k + 1, x0, x9 => if x9 = true then (some 0) else (tree_Split.l0 k x0 1)
def tree_Split.l0 : Nat → Int → Int → Option (Int)
 | 0, _, _ => none
 | k + 1, x0, x3 => if (wrap64 (x3 * 2)) < x0 then (tree_Split.l0 k x0 (wrap64 (x3 * 2))) else (some x3)
end
def tree_Split.f (k : Nat) (a0 : Int) : Option (Int) := if a0 < 2 then (tree_Split.j0 k a0 true) else (tree_Split.j0 k a0 (decide (a0 > 1099511627776)))
theorem tree_Split.mono_l : ∀ k, (∀ y0 y1, LeO (tree_Split.j0 k y0 y1) (tree_Split.j0 (k + 1) y0 y1)) ∧ (∀ y0 y1, LeO (tree_Split.l0 k y0 y1) (tree_Split.l0 (k + 1) y0 y1))
 | 0 => ⟨fun _ _ r h => by simp [tree_Split.j0] at h, fun _ _ r h => by simp [tree_Split.l0] at h⟩
 | k + 1 => by
  obtain ⟨ih0, ih1⟩ := tree_Split.mono_l k; refine ⟨?_, ?_⟩
  ·intro y0 y1
   unfold tree_Split.j0
   repeat' first
   | (with_reducible exact ih0 _ _)
   | (with_reducible exact ih1 _ _)
   | (with_reducible exact LeO.refl _)
   | (with_reducible exact LeO.none _)
   | (with_reducible refine LeO.ite ?_ ?_)
   | (with_reducible refine LeO.bind ?_ (fun _ => ?_))
  ·intro y0 y1
   unfold tree_Split.l0
   repeat' first
   | (with_reducible exact ih0 _ _)
   | (with_reducible exact ih1 _ _)
   | (with_reducible exact LeO.refl _)
   | (with_reducible exact LeO.none _)
   | (with_reducible refine LeO.ite ?_ ?_)
   | (with_reducible refine LeO.bind ?_ (fun _ => ?_))
theorem tree_Split.mono : ∀ a0 k, LeO (tree_Split.f k a0) (tree_Split.f (k + 1) a0) := by
 intro a0 k
 obtain ⟨ih0, ih1⟩ := tree_Split.mono_l k
 unfold tree_Split.f
 repeat' first
   | (with_reducible exact ih0 _ _)
   | (with_reducible exact ih1 _ _)
   | (with_reducible exact LeO.refl _)
   | (with_reducible exact LeO.none _)
   | (with_reducible refine LeO.ite ?_ ?_)
   | (with_reducible refine LeO.bind ?_ (fun _ => ?_))
set_option maxHeartbeats 8000000 in
set_option maxRecDepth 100000 in
theorem tree_Split.calls (k : Nat) (a0 : Int) (r : Int) (w : World) (h : tree_Split.f k a0 = some r) :
  Calls Tryd.prog 49 #[.int .i64 a0] w fun e w' => e = .returned (.int .i64 r) ∧ Drawn0 w w' := by
 have H : (if a0 < 2 then (tree_Split.j0 k a0 true) else (tree_Split.j0 k a0 (decide (a0 > 1099511627776)))) = some r := h
 clear h
 have HC2 := zM H
 clear H
 go_enter Tryd.func49, Tryd.ntmps49
 go_upto_region 1 with (fail)
 go_cut [9] (fun v9 wc => ∃ (kq : Nat) (x9_1 : Bool), v9 = .bool x9_1 ∧ Aside0 (tree_Split.j0 kq a0 x9_1 = some r) ∧ Aside0 (kq ≤ k) ∧ Drawn0 w wc)
 case first =>
  have H := HC2.out; clear HC2
  by_cases c3 : a0 < 2
  ·rw [if_pos c3] at H
   have c3b0 : decide (a0 < 2) = true := decide_eq_true c3; clear c3; (first | rw [c3b0] | (simp only [i64_w, i32_w]; rw [c3b0]) | skip); have H' := zM H; clear H; go_wp2; go_meet
   case rel => exact ⟨_, (true), zz, H', ⟨by first | omega | exact Nat.le_refl _⟩, by repeat (first | exact Drawn0.refl _ | apply Drawn0.step)⟩
  ·rw [if_neg c3] at H
   have c3b0 : decide (a0 < 2) = false := decide_eq_false c3; clear c3; (first | rw [c3b0] | (simp only [i64_w, i32_w]; rw [c3b0]) | skip); have H' := zM H; clear H; go_wp2; go_meet
   case rel => exact ⟨_, (decide (a0 > 1099511627776)), zz, H', ⟨by first | omega | exact Nat.le_refl _⟩, by repeat (first | exact Drawn0.refl _ | apply Drawn0.step)⟩
 case rest =>
  clear HC2; (try clear p2); (try clear c3); (try clear c3b0); obtain ⟨kq, x9_1, rfl, HA, HJ1, ⟨mc1, rfl⟩⟩ := hcut
  cases kq with
  | zero => exact absurd HA.out (by simp [tree_Split.j0])
  | succ kj1 =>
   have H := HA.out; clear HA; simp only [tree_Split.j0] at H
   by_cases c4 : x9_1 = true
   ·subst c4
    (have H1 : (some 0) = some r := by rw [if_pos rfl] at H; exact H); clear H; have H := H1; clear H1; obtain rfl := Option.some.inj H; go_wp2; go_ret; (exact ⟨by first | rfl | (simp; done) | (simp [*]; done), by repeat (first | exact Drawn0.refl _ | apply Drawn0.step)⟩)
   ·replace c4 := Bool.eq_false_iff.mpr c4
    subst c4; (have H1 : (tree_Split.l0 kj1 a0 1) = some r := by rw [if_neg (show ¬ (false = true) by decide)] at H; exact H); clear H; have H := H1; clear H1; have H' := zM H; clear H; go_wp2; (go_loopg [3] kj1 (fun kq v3 w' => ∃ (x3_2 : Int), v3 = .int .i64 x3_2 ∧ Aside0 (tree_Split.l0 kq a0 x3_2 = some r) ∧ Aside0 (kq ≤ kj1) ∧ Drawn0 w w'))
    case atStart => exact ⟨(1), zz, H', ⟨Nat.le_refl _⟩, by repeat (first | exact Drawn0.refl _ | apply Drawn0.step)⟩
    case round =>
     clear H'; (try clear c1); (try clear p2); (try clear c3); (try clear c3b0); (try clear c4); (try clear p2); obtain ⟨x3_2, rfl, HA, HK2, ⟨m2, rfl⟩⟩ := hrel
     cases gk with
     | zero => exact absurd HA.out (by simp [tree_Split.l0])
     | succ k2 =>
      have H := HA.out; clear HA; simp only [tree_Split.l0] at H
      by_cases c5 : (wrap64 (x3_2 * 2)) < a0
      ·rw [if_pos c5] at H
       have c5b0 : decide ((wrap64 (x3_2 * 2)) < a0) = true := decide_eq_true c5; clear c5; have H' := zM H; clear H; go_wp2; go_roundg k2
       case measure => have := HJ1.out; have := HK2.out; omega
       case rel => exact ⟨(wrap64 (x3_2 * 2)), zz, H', ⟨by have := HJ1.out; have := HK2.out; omega⟩, by repeat (first | exact Drawn0.refl _ | apply Drawn0.step)⟩
      ·rw [if_neg c5] at H
       have c5b0 : decide ((wrap64 (x3_2 * 2)) < a0) = false := decide_eq_false c5; clear c5; obtain rfl := Option.some.inj H; go_wp2; go_ret; (exact ⟨by first | rfl | (simp; done) | (simp [*]; done), by repeat (first | exact Drawn0.refl _ | apply Drawn0.step)⟩)
mutual
def tree_Path.j0 : Nat → List ByteArray → Int → Bool → Option (List ByteArray × Int)
 | 0, _, _, _ => none
 | k + 1, x0, x1, x22 => if x22 = true then (some (([] : List ByteArray), 1)) else (tree_Path.l0 k x0 x1 ([] : List ByteArray))
def tree_Path.l0 : Nat → List ByteArray → Int → List ByteArray → Option (List ByteArray × Int)
 | 0, _, _, _ => none
 | k + 1, x0, x1, x6 => if (x0.length : Int) > 1 then ((tree_Split.f k (x0.length : Int)).bind fun t131 => (if x1 < t131 then (if 0 ≤ t131 then (if t131 ≤ (x0.length : Int) then ((tree_root.f k (x0.drop (t131 : Int).toNat)).bind fun t137 => (if x6.length < 8796093022208 then (tree_Path.l0 k (x0.take (t131 : Int).toNat) x1 (x6 ++ [t137])) else (none))) else (none)) else (none)) else (if 0 ≤ t131 then (if t131 ≤ (x0.length : Int) then ((tree_root.f k (x0.take (t131 : Int).toNat)).bind fun t151 => (if x6.length < 8796093022208 then (tree_Path.l0 k (x0.drop (t131 : Int).toNat) (wrap64 (x1 - t131)) (x6 ++ [t151])) else (none))) else (none)) else (none)))) else (if 0 ≤ (x6.length : Int) then (if ((x6.length : Int) : Int).toNat ≤ 17592186044416 then (tree_Path.l1 k x6 (List.replicate ((x6.length : Int) : Int).toNat (⟨#[]⟩ : ByteArray)) (x6.length : Int) 0) else (none)) else (none))
def tree_Path.l1 : Nat → List ByteArray → List ByteArray → Int → Int → Option (List ByteArray × Int)
 | 0, _, _, _, _ => none
 | k + 1, x6, x8, x59, x60 => if x60 < x59 then (if 0 ≤ x60 then (if x60 < (x6.length : Int) then (if 0 ≤ (wrap64 ((wrap64 ((x6.length : Int) - 1)) - x60)) then (if (wrap64 ((wrap64 ((x6.length : Int) - 1)) - x60)) < (x8.length : Int) then (tree_Path.l1 k x6 (x8.set ((wrap64 ((wrap64 ((x6.length : Int) - 1)) - x60)) : Int).toNat (rdOf ByteArray.empty x6 x60)) x59 (wrap64 (x60 + 1))) else (none)) else (none)) else (none)) else (none)) else (some (x8, 0))
end
def tree_Path.f (k : Nat) (l0 : List ByteArray) (a1 : Int) : Option (List ByteArray × Int) := (tree_all.f k l0).bind fun t130 => (if t130 = true then (if a1 < 0 then (tree_Path.j0 k l0 a1 true) else (tree_Path.j0 k l0 a1 (decide (a1 ≥ (l0.length : Int))))) else (tree_Path.j0 k l0 a1 true))
theorem tree_Path.mono_l : ∀ k, (∀ y0 y1 y2, LeO (tree_Path.j0 k y0 y1 y2) (tree_Path.j0 (k + 1) y0 y1 y2)) ∧ (∀ y0 y1 y2, LeO (tree_Path.l0 k y0 y1 y2) (tree_Path.l0 (k + 1) y0 y1 y2)) ∧ (∀ y0 y1 y2 y3, LeO (tree_Path.l1 k y0 y1 y2 y3) (tree_Path.l1 (k + 1) y0 y1 y2 y3))
 | 0 => ⟨fun _ _ _ r h => by simp [tree_Path.j0] at h, fun _ _ _ r h => by simp [tree_Path.l0] at h, fun _ _ _ _ r h => by simp [tree_Path.l1] at h⟩
 | k + 1 => by
  obtain ⟨ih0, ih1, ih2⟩ := tree_Path.mono_l k; refine ⟨?_, ?_, ?_⟩
  ·intro y0 y1 y2
   unfold tree_Path.j0
   repeat' first
   | (with_reducible exact ih0 _ _ _)
   | (with_reducible exact ih1 _ _ _)
   | (with_reducible exact ih2 _ _ _ _)
   | (with_reducible exact tree_Split.mono _ _)
   | (with_reducible exact tree_all.mono _ _)
   | (with_reducible exact tree_root.mono _ _)
   | (with_reducible exact LeO.refl _)
   | (with_reducible exact LeO.none _)
   | (with_reducible refine LeO.ite ?_ ?_)
   | (with_reducible refine LeO.bind ?_ (fun _ => ?_))
  ·intro y0 y1 y2
   unfold tree_Path.l0
   repeat' first
   | (with_reducible exact ih0 _ _ _)
   | (with_reducible exact ih1 _ _ _)
   | (with_reducible exact ih2 _ _ _ _)
   | (with_reducible exact tree_Split.mono _ _)
   | (with_reducible exact tree_all.mono _ _)
   | (with_reducible exact tree_root.mono _ _)
   | (with_reducible exact LeO.refl _)
   | (with_reducible exact LeO.none _)
   | (with_reducible refine LeO.ite ?_ ?_)
   | (with_reducible refine LeO.bind ?_ (fun _ => ?_))
  ·intro y0 y1 y2 y3
   unfold tree_Path.l1
   repeat' first
   | (with_reducible exact ih0 _ _ _)
   | (with_reducible exact ih1 _ _ _)
   | (with_reducible exact ih2 _ _ _ _)
   | (with_reducible exact tree_Split.mono _ _)
   | (with_reducible exact tree_all.mono _ _)
   | (with_reducible exact tree_root.mono _ _)
   | (with_reducible exact LeO.refl _)
   | (with_reducible exact LeO.none _)
   | (with_reducible refine LeO.ite ?_ ?_)
   | (with_reducible refine LeO.bind ?_ (fun _ => ?_))
theorem tree_Path.mono : ∀ a0 a1 k, LeO (tree_Path.f k a0 a1) (tree_Path.f (k + 1) a0 a1) := by
 intro a0 a1 k
 obtain ⟨ih0, ih1, ih2⟩ := tree_Path.mono_l k
 unfold tree_Path.f
 repeat' first
   | (with_reducible exact ih0 _ _ _)
   | (with_reducible exact ih1 _ _ _)
   | (with_reducible exact ih2 _ _ _ _)
   | (with_reducible exact tree_Split.mono _ _)
   | (with_reducible exact tree_all.mono _ _)
   | (with_reducible exact tree_root.mono _ _)
   | (with_reducible exact LeO.refl _)
   | (with_reducible exact LeO.none _)
   | (with_reducible refine LeO.ite ?_ ?_)
   | (with_reducible refine LeO.bind ?_ (fun _ => ?_))
set_option maxHeartbeats 8000000 in
set_option maxRecDepth 100000 in
theorem tree_Path.calls (k : Nat) (P0_ : Nat → Prop) (A0 : Option Addr) (c0 : Nat) (l0 : List ByteArray) (a1 : Int) (r1 : List ByteArray) (r2 : Int) (w : World) (hG_ : Aside0 (GW w)) (hs0 : Kd.V Kd.string 9 w w.heap.size (fun k_ => P0_ k_) (.slice A0 l0.length c0) l0) (h : tree_Path.f k l0 a1 = some (r1, r2)) :
  Calls Tryd.prog 36 #[.slice A0 l0.length c0, .int .i64 a1] w fun e w' => ∃ v0_ : Value, e = .returned (.tuple #[v0_, .int .i64 r2]) ∧ Kd.R Kd.string 9 w' w.heap.size (fun k_ => (w.heap.size ≤ k_)) v0_ r1 ∧ Below w.heap.size w w' := by
 have HO0 := zM (show Kd.V Kd.string 9 w w.heap.size (fun k_ => (P0_ k_ ∨ w.heap.size ≤ k_)) (.slice A0 l0.length c0) l0 from Kd.V_mono hs0 (fun k_ hk => .inl hk))
 have HB := zM (Below.refl w.heap.size w)
 have H : ((tree_all.f k l0).bind fun t130 => (if t130 = true then (if a1 < 0 then (tree_Path.j0 k l0 a1 true) else (tree_Path.j0 k l0 a1 (decide (a1 ≥ (l0.length : Int))))) else (tree_Path.j0 k l0 a1 true))) = some (r1, r2) := h
 clear h
 have HC3 := zM H
 clear H
 go_enter Tryd.func36, Tryd.ntmps36
 go_upto_region 1 with (fail)
 go_cut [22] (fun v22 wc => ∃ (kq : Nat) (x22_2 : Bool), v22 = .bool x22_2 ∧ Aside0 (tree_Path.j0 kq l0 a1 x22_2 = some (r1, r2)) ∧ Aside0 (kq ≤ k) ∧ Aside0 (Kd.V Kd.string 9 wc w.heap.size (fun k_ => (P0_ k_ ∨ w.heap.size ≤ k_)) (.slice A0 l0.length c0) l0) ∧ Aside0 (Below w.heap.size w wc))
 case first =>
  have H := HC3.out; clear HC3; replace H := zB H; obtain ⟨t130, A40, H⟩ := H; (replace H : (if t130 = true then (if a1 < 0 then (tree_Path.j0 k l0 a1 true) else (tree_Path.j0 k l0 a1 (decide (a1 ≥ (l0.length : Int))))) else (tree_Path.j0 k l0 a1 true)) = some (r1, r2) := H); have A4 := zM A40; clear A40
  by_cases c5 : t130 = true
  ·subst c5
   (have H1 : (if a1 < 0 then (tree_Path.j0 k l0 a1 true) else (tree_Path.j0 k l0 a1 (decide (a1 ≥ (l0.length : Int))))) = some (r1, r2) := by rw [if_pos rfl] at H; exact H); clear H; have H := H1; clear H1
   by_cases c6 : a1 < 0
   ·rw [if_pos c6] at H
    have c6b0 : decide (a1 < 0) = true := decide_eq_true c6; clear c6; (first | rw [c6b0] | (simp only [i64_w, i32_w]; rw [c6b0]) | skip); have H' := zM H; clear H; (go_wp2_with (first | ((with_reducible refine gate_callee (f := 55) rfl ?_); refine goesL_ (some 11) rfl rfl Tryd.func55 (by kernel_rfl) rfl #[.slice A0 l0.length c0] rfl zm ?_; (with_reducible refine (tree_all.calls k _ _ l0 true _ ?side1 ?side2 A4.out).mono ?_); (case side1 => exact zc (Kd.V_reads' HO0.out).2.2); (case side2 => exact (Kd.V_reads' HO0.out).2.1); rintro e w' ⟨rfl, ⟨nd, rfl⟩⟩; refine ⟨_, rfl, ?_⟩))); go_meet
    case rel => exact ⟨_, (true), zz, H', ⟨by first | omega | exact Nat.le_refl _⟩, ⟨by (with_reducible repeat (first | apply Kd.V_alloc | apply Kd.V_drewN | apply Kd.V_drew)); exact HO0.out⟩, ⟨zb HB.out⟩⟩
   ·rw [if_neg c6] at H
    have c6b0 : decide (a1 < 0) = false := decide_eq_false c6; clear c6; (first | rw [c6b0] | (simp only [i64_w, i32_w]; rw [c6b0]) | skip); have H' := zM H; clear H; (go_wp2_with (first | ((with_reducible refine gate_callee (f := 55) rfl ?_); refine goesL_ (some 11) rfl rfl Tryd.func55 (by kernel_rfl) rfl #[.slice A0 l0.length c0] rfl zm ?_; (with_reducible refine (tree_all.calls k _ _ l0 true _ ?side1 ?side2 A4.out).mono ?_); (case side1 => exact zc (Kd.V_reads' HO0.out).2.2); (case side2 => exact (Kd.V_reads' HO0.out).2.1); rintro e w' ⟨rfl, ⟨nd, rfl⟩⟩; refine ⟨_, rfl, ?_⟩))); go_meet
    case rel => exact ⟨_, (decide (a1 ≥ (l0.length : Int))), zz, H', ⟨by first | omega | exact Nat.le_refl _⟩, ⟨by (with_reducible repeat (first | apply Kd.V_alloc | apply Kd.V_drewN | apply Kd.V_drew)); exact HO0.out⟩, ⟨zb HB.out⟩⟩
  ·replace c5 := Bool.eq_false_iff.mpr c5
   subst c5; (have H1 : (tree_Path.j0 k l0 a1 true) = some (r1, r2) := by rw [if_neg (show ¬ (false = true) by decide)] at H; exact H); clear H; have H := H1; clear H1; have H' := zM H; clear H; (go_wp2_with (first | ((with_reducible refine gate_callee (f := 55) rfl ?_); refine goesL_ (some 11) rfl rfl Tryd.func55 (by kernel_rfl) rfl #[.slice A0 l0.length c0] rfl zm ?_; (with_reducible refine (tree_all.calls k _ _ l0 false _ ?side1 ?side2 A4.out).mono ?_); (case side1 => exact zc (Kd.V_reads' HO0.out).2.2); (case side2 => exact (Kd.V_reads' HO0.out).2.1); rintro e w' ⟨rfl, ⟨nd, rfl⟩⟩; refine ⟨_, rfl, ?_⟩))); go_meet
   case rel => exact ⟨_, (true), zz, H', ⟨by first | omega | exact Nat.le_refl _⟩, ⟨by (with_reducible repeat (first | apply Kd.V_alloc | apply Kd.V_drewN | apply Kd.V_drew)); exact HO0.out⟩, ⟨zb HB.out⟩⟩
 case rest =>
  clear HC3; (try clear p2); (try clear c3); (try clear c5); (try clear c6); (try clear c6b0); obtain ⟨kq, x22_2, rfl, HA, HJ2, HO_0, HB⟩ := hcut
  cases kq with
  | zero => exact absurd HA.out (by simp [tree_Path.j0])
  | succ kj2 =>
   have H := HA.out; clear HA; simp only [tree_Path.j0] at H
   by_cases c7 : x22_2 = true
   ·subst c7
    (have H1 : (some (([] : List ByteArray), 1)) = some (r1, r2) := by rw [if_pos rfl] at H; exact H); clear H; have H := H1; clear H1; simp only [Option.some.injEq, Prod.mk.injEq] at H; obtain ⟨rfl, rfl⟩ := H; go_wp2; go_ret2; (exact ⟨_, by first | rfl | (simp [errW_none, errW_some] <;> rfl) | (simp [*, errW_none, errW_some] <;> rfl), by first | exact Kd.R_nil _ _ _ _ _ | exact Kd.N_nil _ _ _ _ _ | exact Kd.V_nil _ _ _ _ _ | exact Kd.Q_nil _ _ _ _ _ | exact Kd.S_nil _ _ _ _ _, zb HB.out⟩)
   ·replace c7 := Bool.eq_false_iff.mpr c7
    subst c7; (have H1 : (tree_Path.l0 kj2 l0 a1 ([] : List ByteArray)) = some (r1, r2) := by rw [if_neg (show ¬ (false = true) by decide)] at H; exact H); clear H; have H := H1; clear H1; have H' := zM H; clear H; go_wp2; (go_loopg [0, 1, 6] kj2 (fun kq v0 v1 v6 w' => ∃ (x0_2 : List ByteArray) (x1_2 : Int) (x6_2 : List ByteArray), v1 = .int .i64 x1_2 ∧ Aside0 (tree_Path.l0 kq x0_2 x1_2 x6_2 = some (r1, r2)) ∧ Aside0 (kq ≤ kj2) ∧ Aside0 (Kd.V Kd.string 9 w' w.heap.size (fun k_ => (P0_ k_ ∨ w.heap.size ≤ k_) ∧ some k_ ≠ (v6 : Value).ownBlock) v0 x0_2) ∧ Aside0 (Kd.R Kd.string 9 w' w.heap.size (fun k_ => (w.heap.size ≤ k_)) v6 x6_2) ∧ Aside0 (Below w.heap.size w w')))
    case atStart => exact ⟨(l0), (a1), (([] : List ByteArray)), zz, H', ⟨Nat.le_refl _⟩, ⟨by (with_reducible repeat (first | apply Kd.V_alloc | apply Kd.V_drewN | apply Kd.V_drew)); exact Kd.V_mono HO_0.out (fun _ hk => ⟨hk, (by simp [Value.ownBlock])⟩)⟩, ⟨by first | exact Kd.R_nil _ _ _ _ _ | exact Kd.N_nil _ _ _ _ _ | exact Kd.V_nil _ _ _ _ _ | exact Kd.Q_nil _ _ _ _ _ | exact Kd.S_nil _ _ _ _ _⟩, ⟨zb HB.out⟩⟩
    case round =>
     clear H'; (try clear p2); (try clear c3); (try clear c5); (try clear c6); (try clear c6b0); (try clear c7); (try clear p2); obtain ⟨x0_2, x1_2, x6_2, rfl, HA, HK2, HO_0, HO_6, HB⟩ := hrel
     cases gk with
     | zero => exact absurd HA.out (by simp [tree_Path.l0])
     | succ k2 =>
      have H := HA.out; clear HA; simp only [tree_Path.l0] at H
      by_cases c8 : (x0_2.length : Int) > 1
      ·rw [if_pos c8] at H
       have c8b0 : decide (1 < (x0_2.length : Int)) = true := decide_eq_true c8; (have c8b1 : decide (1 < x0_2.length) = true := decide_eq_true (by omega)); clear c8; replace H := zB H; obtain ⟨t131, A90, H⟩ := H; (replace H : (if x1_2 < t131 then (if 0 ≤ t131 then (if t131 ≤ (x0_2.length : Int) then ((tree_root.f k2 (x0_2.drop (t131 : Int).toNat)).bind fun t137 => (if x6_2.length < 8796093022208 then (tree_Path.l0 k2 (x0_2.take (t131 : Int).toNat) x1_2 (x6_2 ++ [t137])) else (none))) else (none)) else (none)) else (if 0 ≤ t131 then (if t131 ≤ (x0_2.length : Int) then ((tree_root.f k2 (x0_2.take (t131 : Int).toNat)).bind fun t151 => (if x6_2.length < 8796093022208 then (tree_Path.l0 k2 (x0_2.drop (t131 : Int).toNat) (wrap64 (x1_2 - t131)) (x6_2 ++ [t151])) else (none))) else (none)) else (none))) = some (r1, r2) := H); have A9 := zM A90; clear A90
       by_cases c10 : x1_2 < t131
       ·rw [if_pos c10] at H
        have c10b0 : decide (x1_2 < t131) = true := decide_eq_true c10; clear c10
        by_cases c11 : 0 ≤ t131
        ·rw [if_pos c11] at H
         have c11b0 := eq_true c11; have c11b1 : decide (0 ≤ t131) = true := decide_eq_true c11; clear c11
         by_cases c12 : t131 ≤ (x0_2.length : Int)
         ·rw [if_pos c12] at H
          have c12b0 := eq_true c12; have c12b1 : decide (t131 ≤ (x0_2.length : Int)) = true := decide_eq_true c12; clear c12; obtain ⟨y132, hy132⟩ : ∃ y_ : List ByteArray, y_ = (x0_2.drop (t131 : Int).toNat) := ⟨_, rfl⟩; (replace H : ((tree_root.f k2 y132).bind fun t137 => (if x6_2.length < 8796093022208 then (tree_Path.l0 k2 (x0_2.take (t131 : Int).toNat) x1_2 (x6_2 ++ [t137])) else (none))) = some (r1, r2) := zh H hy132); have Ny132 := zM hy132; clear hy132; replace H := zB H; obtain ⟨t137, A130, H⟩ := H; (replace H : (if x6_2.length < 8796093022208 then (tree_Path.l0 k2 (x0_2.take (t131 : Int).toNat) x1_2 (x6_2 ++ [t137])) else (none)) = some (r1, r2) := H); have A13 := zM A130; clear A130
          by_cases c14 : x6_2.length < 8796093022208
          ·rw [if_pos c14] at H
           have LMc14 := zM c14; clear c14; obtain ⟨y138, hy138⟩ : ∃ y_ : List ByteArray, y_ = (x6_2 ++ [t137]) := ⟨_, rfl⟩; replace H : (tree_Path.l0 k2 (x0_2.take (t131 : Int).toNat) x1_2 y138) = some (r1, r2) := zh H hy138; have Ny138 := zM hy138; clear hy138; have c15b0 := eq_true (zd : 0 ≤ t131); have c16b0 := eq_true (zd : t131 ≤ (x0_2.length : Int)); obtain ⟨y141, hy141⟩ : ∃ y_ : List ByteArray, y_ = (x0_2.take (t131 : Int).toNat) := ⟨_, rfl⟩; replace H : (tree_Path.l0 k2 y141 x1_2 y138) = some (r1, r2) := zh H hy141; have Ny141 := zM hy141; clear hy141; have H' := zM H; clear H; obtain ⟨Ao17, co17, eo17⟩ := Kd.V_slice HO_0.out; subst eo17; (go_wp2_with (first | ((with_reducible refine gate_callee (f := 49) rfl ?_); refine goesL_ (some 28) rfl rfl Tryd.func49 (by kernel_rfl) rfl #[.int .i64 (x0_2.length : Int)] rfl zm ?_; (with_reducible refine (tree_Split.calls k2 (x0_2.length : Int) t131 _ A9.out).mono ?_); rintro e w' ⟨rfl, ⟨nd, rfl⟩⟩; refine ⟨_, rfl, ?_⟩; have q18 : (t131 : Int) ≤ ((x0_2.length : Int) : Int) := zd; obtain ⟨i018, hi018, _, hsz18, _⟩ := info_parts info9; have hroom18 : x0_2.length ≤ co17 := (Kd.V_reads' HO_0.out).2.1; have hC18 : Kd.F Kd.string _ _ Ao17 x0_2.length x0_2 := (Kd.V_at (base := w.heap.size) HO_0.out).2.2; have q018 : (0 : Int) ≤ (t131 : Int) := zd; have hcut18 := cut_from (P := Tryd.prog) 22 9 .i64 Tryd.underlying22 hi018 1 hsz18 Ao17 x0_2.length co17 t131 q018 q18; have hr18 := Kd.F_cut (m := (t131 : Int).toNat) (c := co17) hC18 (by omega) hroom18; obtain ⟨A18, hA18⟩ : ∃ A1, A1 = (if co17 = (t131 : Int).toNat then Ao17 else (Ao17 : Option Addr).map (·.add ((t131 : Int).toNat * 1))) := ⟨_, rfl⟩; obtain ⟨c18, hc18⟩ : ∃ c1, c1 = co17 - (t131 : Int).toNat := ⟨_, rfl⟩; have hy18 : y132.length = x0_2.length - (t131 : Int).toNat := (by rw [Ny132.out, List.length_drop] <;> omega); rw [show (x0_2).drop (t131 : Int).toNat = y132 from Ny132.out.symm] at hr18; replace hr18 : Kd.F Kd.string _ _ A18 y132.length y132 := (by rw [hA18]; exact hr18); rw [← hy18, ← hA18, ← hc18] at hcut18; have HO136 := zM (show Kd.V Kd.string 9 _ w.heap.size _ (.slice A18 y132.length c18) y132 from Kd.V_mk (by rw [hy18, hc18]; exact Nat.sub_le_sub_right hroom18 _) hr18); have HC136 := zM (show y132.length ≤ c18 from by rw [hy18, hc18]; exact Nat.sub_le_sub_right hroom18 _); clear hr18 hC18 hroom18 hi018 hsz18 hc18; have KY18 := zM hy18; have KA18 := zM hA18; clear hy18 hA18; replace q18 := eq_true q18) | ((with_reducible refine gate_callee (f := 56) rfl ?_); refine goesL_ (some 36) rfl rfl Tryd.func56 (by kernel_rfl) rfl #[.slice A18 y132.length c18] rfl zm ?_; (with_reducible refine (tree_root.calls k2 _ _ y132 t137 _ ?side3 ?side1 ?side2 A13.out).mono ?_); (case side1 => exact zc (Kd.V_reads' HO136.out).2.2); (case side2 => exact (Kd.V_reads' HO136.out).2.1); (case side3 => exact gw_step hG_ (zb HB.out)); rintro e w19 ⟨rfl, hb⟩; refine ⟨_, rfl, ?_⟩; replace HO_0 := zV HO_0 hb; replace HO_6 := zR HO_6 hb; replace HO136 := zV HO136 hb; replace HB := zS HB hb; (try clear hb)) | ((with_reducible refine gate_builtin (b := .append) (xs := #[.tmp 32, .tmp 37]) rfl ?_); (try (refine gate_guard (by rfl) ?_; dsimp only)); at_builtin; refine Kd.R_append Kd.string (w0 := w) w.heap.size rfl (.tmp 32) (.tmp 37) 22 9 (.string ⟨#[]⟩) 16 rfl Tryd.underlying22 info9 rfl (by decide) (by omega) u6 x6_2 t137 [.string t137] (fun k_ => (w.heap.size ≤ k_)) (fun _ => False) rfl rfl ?aP (fun _ hk => hk.elim) ?aF ?aO ?aB ?aS ?aL ?_; (case aP => exact rfl); (case aB => exact (zb HB.out)); (case aF => exact (fun k_ hk => (Nat.le_trans (below_size (zb HB.out)) hk))); (case aO => exact (zr HO_6.out)); (case aS => exact (below_size (zb HB.out))); (case aL => have := LMc14.out; omega); intro v139 w20 ho hb hg hat; rw [← Ny138.out] at ho; replace HO_0 := zM (Kd.V_afterv (ok := (fun k_ => (P0_ k_ ∨ w.heap.size ≤ k_))) (zv HO_0.out) hg hat); replace HO136 := zM (Kd.V_afterv (ok := (fun k_ => (P0_ k_ ∨ w.heap.size ≤ k_))) (zv HO136.out) hg hat); replace HB := zM (hb); have HO140 := zM (ho); clear HO_6 ho hb hg hat; have q21 : (t131 : Int) ≤ ((x0_2.length : Int) : Int) := zd; obtain ⟨i021, hi021, _, hsz21, _⟩ := info_parts info9; have hroom21 : x0_2.length ≤ co17 := (Kd.V_reads' HO_0.out).2.1; have hC21 : Kd.F Kd.string _ _ Ao17 x0_2.length x0_2 := (Kd.V_at (base := w.heap.size) HO_0.out).2.2; have hcut21 := cut_to (P := Tryd.prog) 22 9 .i64 Tryd.underlying22 hi021 Ao17 x0_2.length co17 t131 (zd) q21 hroom21; have hr21 := Kd.F_take (m := (t131 : Int).toNat) hC21 (by omega); have hy21 : y141.length = (t131 : Int).toNat := (by rw [Ny141.out, List.length_take]; omega); rw [← Ny141.out] at hr21; rw [← hy21] at hcut21; have HO145 := zM (show Kd.V Kd.string 9 _ w.heap.size _ (.slice Ao17 y141.length co17) y141 from Kd.V_mk (by omega) hr21); have HC145 := zM (show y141.length ≤ co17 from by omega); clear hr21 hC21 hroom21 hi021 hsz21; have KY21 := zM hy21; clear hy21; replace q21 := eq_true q21))); go_roundg k2
           case measure => have := HJ2.out; have := HK2.out; omega
           case rel => exact ⟨(y141), (x1_2), (y138), zz, H', ⟨by have := HJ2.out; have := HK2.out; omega⟩, ⟨by (with_reducible repeat (first | apply Kd.V_alloc | apply Kd.V_drewN | apply Kd.V_drew)); exact HO145.out⟩, ⟨zr HO140.out⟩, ⟨zb HB.out⟩⟩
          ·rw [if_neg c14] at H
           exact absurd H (by simp)
         ·rw [if_neg c12] at H
          exact absurd H (by simp)
        ·rw [if_neg c11] at H
         exact absurd H (by simp)
       ·rw [if_neg c10] at H
        have c10b0 : decide (x1_2 < t131) = false := decide_eq_false c10; clear c10
        by_cases c22 : 0 ≤ t131
        ·rw [if_pos c22] at H
         have c22b0 := eq_true c22; have c22b1 : decide (0 ≤ t131) = true := decide_eq_true c22; clear c22
         by_cases c23 : t131 ≤ (x0_2.length : Int)
         ·rw [if_pos c23] at H
          have c23b0 := eq_true c23; have c23b1 : decide (t131 ≤ (x0_2.length : Int)) = true := decide_eq_true c23; clear c23; obtain ⟨y146, hy146⟩ : ∃ y_ : List ByteArray, y_ = (x0_2.take (t131 : Int).toNat) := ⟨_, rfl⟩; (replace H : ((tree_root.f k2 y146).bind fun t151 => (if x6_2.length < 8796093022208 then (tree_Path.l0 k2 (x0_2.drop (t131 : Int).toNat) (wrap64 (x1_2 - t131)) (x6_2 ++ [t151])) else (none))) = some (r1, r2) := zh H hy146); have Ny146 := zM hy146; clear hy146; replace H := zB H; obtain ⟨t151, A240, H⟩ := H; (replace H : (if x6_2.length < 8796093022208 then (tree_Path.l0 k2 (x0_2.drop (t131 : Int).toNat) (wrap64 (x1_2 - t131)) (x6_2 ++ [t151])) else (none)) = some (r1, r2) := H); have A24 := zM A240; clear A240
          by_cases c25 : x6_2.length < 8796093022208
          ·rw [if_pos c25] at H
           have LMc25 := zM c25; clear c25; obtain ⟨y152, hy152⟩ : ∃ y_ : List ByteArray, y_ = (x6_2 ++ [t151]) := ⟨_, rfl⟩; replace H : (tree_Path.l0 k2 (x0_2.drop (t131 : Int).toNat) (wrap64 (x1_2 - t131)) y152) = some (r1, r2) := zh H hy152; have Ny152 := zM hy152; clear hy152; have c26b0 := eq_true (zd : 0 ≤ t131); have c27b0 := eq_true (zd : t131 ≤ (x0_2.length : Int)); obtain ⟨y155, hy155⟩ : ∃ y_ : List ByteArray, y_ = (x0_2.drop (t131 : Int).toNat) := ⟨_, rfl⟩; replace H : (tree_Path.l0 k2 y155 (wrap64 (x1_2 - t131)) y152) = some (r1, r2) := zh H hy155; have Ny155 := zM hy155; clear hy155; have H' := zM H; clear H; obtain ⟨Ao28, co28, eo28⟩ := Kd.V_slice HO_0.out; subst eo28; (go_wp2_with (first | ((with_reducible refine gate_callee (f := 49) rfl ?_); refine goesL_ (some 28) rfl rfl Tryd.func49 (by kernel_rfl) rfl #[.int .i64 (x0_2.length : Int)] rfl zm ?_; (with_reducible refine (tree_Split.calls k2 (x0_2.length : Int) t131 _ A9.out).mono ?_); rintro e w' ⟨rfl, ⟨nd, rfl⟩⟩; refine ⟨_, rfl, ?_⟩; have q29 : (t131 : Int) ≤ ((x0_2.length : Int) : Int) := zd; obtain ⟨i029, hi029, _, hsz29, _⟩ := info_parts info9; have hroom29 : x0_2.length ≤ co28 := (Kd.V_reads' HO_0.out).2.1; have hC29 : Kd.F Kd.string _ _ Ao28 x0_2.length x0_2 := (Kd.V_at (base := w.heap.size) HO_0.out).2.2; have hcut29 := cut_to (P := Tryd.prog) 22 9 .i64 Tryd.underlying22 hi029 Ao28 x0_2.length co28 t131 (zd) q29 hroom29; have hr29 := Kd.F_take (m := (t131 : Int).toNat) hC29 (by omega); have hy29 : y146.length = (t131 : Int).toNat := (by rw [Ny146.out, List.length_take]; omega); rw [← Ny146.out] at hr29; rw [← hy29] at hcut29; have HO150 := zM (show Kd.V Kd.string 9 _ w.heap.size _ (.slice Ao28 y146.length co28) y146 from Kd.V_mk (by omega) hr29); have HC150 := zM (show y146.length ≤ co28 from by omega); clear hr29 hC29 hroom29 hi029 hsz29; have KY29 := zM hy29; clear hy29; replace q29 := eq_true q29) | ((with_reducible refine gate_callee (f := 56) rfl ?_); refine goesL_ (some 46) rfl rfl Tryd.func56 (by kernel_rfl) rfl #[.slice Ao28 y146.length co28] rfl zm ?_; (with_reducible refine (tree_root.calls k2 _ _ y146 t151 _ ?side3 ?side1 ?side2 A24.out).mono ?_); (case side1 => exact zc (Kd.V_reads' HO150.out).2.2); (case side2 => exact (Kd.V_reads' HO150.out).2.1); (case side3 => exact gw_step hG_ (zb HB.out)); rintro e w30 ⟨rfl, hb⟩; refine ⟨_, rfl, ?_⟩; replace HO_0 := zV HO_0 hb; replace HO_6 := zR HO_6 hb; replace HO150 := zV HO150 hb; replace HB := zS HB hb; (try clear hb)) | ((with_reducible refine gate_builtin (b := .append) (xs := #[.tmp 42, .tmp 47]) rfl ?_); (try (refine gate_guard (by rfl) ?_; dsimp only)); at_builtin; refine Kd.R_append Kd.string (w0 := w) w.heap.size rfl (.tmp 42) (.tmp 47) 22 9 (.string ⟨#[]⟩) 16 rfl Tryd.underlying22 info9 rfl (by decide) (by omega) u6 x6_2 t151 [.string t151] (fun k_ => (w.heap.size ≤ k_)) (fun _ => False) rfl rfl ?aP (fun _ hk => hk.elim) ?aF ?aO ?aB ?aS ?aL ?_; (case aP => exact rfl); (case aB => exact (zb HB.out)); (case aF => exact (fun k_ hk => (Nat.le_trans (below_size (zb HB.out)) hk))); (case aO => exact (zr HO_6.out)); (case aS => exact (below_size (zb HB.out))); (case aL => have := LMc25.out; omega); intro v153 w31 ho hb hg hat; rw [← Ny152.out] at ho; replace HO_0 := zM (Kd.V_afterv (ok := (fun k_ => (P0_ k_ ∨ w.heap.size ≤ k_))) (zv HO_0.out) hg hat); replace HO150 := zM (Kd.V_afterv (ok := (fun k_ => (P0_ k_ ∨ w.heap.size ≤ k_))) (zv HO150.out) hg hat); replace HB := zM (hb); have HO154 := zM (ho); clear HO_6 ho hb hg hat; have q32 : (t131 : Int) ≤ ((x0_2.length : Int) : Int) := zd; obtain ⟨i032, hi032, _, hsz32, _⟩ := info_parts info9; have hroom32 : x0_2.length ≤ co28 := (Kd.V_reads' HO_0.out).2.1; have hC32 : Kd.F Kd.string _ _ Ao28 x0_2.length x0_2 := (Kd.V_at (base := w.heap.size) HO_0.out).2.2; have q032 : (0 : Int) ≤ (t131 : Int) := zd; have hcut32 := cut_from (P := Tryd.prog) 22 9 .i64 Tryd.underlying22 hi032 1 hsz32 Ao28 x0_2.length co28 t131 q032 q32; have hr32 := Kd.F_cut (m := (t131 : Int).toNat) (c := co28) hC32 (by omega) hroom32; obtain ⟨A32, hA32⟩ : ∃ A1, A1 = (if co28 = (t131 : Int).toNat then Ao28 else (Ao28 : Option Addr).map (·.add ((t131 : Int).toNat * 1))) := ⟨_, rfl⟩; obtain ⟨c32, hc32⟩ : ∃ c1, c1 = co28 - (t131 : Int).toNat := ⟨_, rfl⟩; have hy32 : y155.length = x0_2.length - (t131 : Int).toNat := (by rw [Ny155.out, List.length_drop] <;> omega); rw [show (x0_2).drop (t131 : Int).toNat = y155 from Ny155.out.symm] at hr32; replace hr32 : Kd.F Kd.string _ _ A32 y155.length y155 := (by rw [hA32]; exact hr32); rw [← hy32, ← hA32, ← hc32] at hcut32; have HO159 := zM (show Kd.V Kd.string 9 _ w.heap.size _ (.slice A32 y155.length c32) y155 from Kd.V_mk (by rw [hy32, hc32]; exact Nat.sub_le_sub_right hroom32 _) hr32); have HC159 := zM (show y155.length ≤ c32 from by rw [hy32, hc32]; exact Nat.sub_le_sub_right hroom32 _); clear hr32 hC32 hroom32 hi032 hsz32 hc32; have KY32 := zM hy32; have KA32 := zM hA32; clear hy32 hA32; replace q32 := eq_true q32))); go_roundg k2
           case measure => have := HJ2.out; have := HK2.out; omega
           case rel => exact ⟨(y155), (wrap64 (x1_2 - t131)), (y152), zz, H', ⟨by have := HJ2.out; have := HK2.out; omega⟩, ⟨by (with_reducible repeat (first | apply Kd.V_alloc | apply Kd.V_drewN | apply Kd.V_drew)); exact HO159.out⟩, ⟨zr HO154.out⟩, ⟨zb HB.out⟩⟩
          ·rw [if_neg c25] at H
           exact absurd H (by simp)
         ·rw [if_neg c23] at H
          exact absurd H (by simp)
        ·rw [if_neg c22] at H
         exact absurd H (by simp)
      ·rw [if_neg c8] at H
       have c8b0 : decide (1 < (x0_2.length : Int)) = false := decide_eq_false c8; (have c8b1 : decide (1 < x0_2.length) = false := decide_eq_false (by omega)); clear c8
       by_cases c33 : 0 ≤ (x6_2.length : Int)
       ·rw [if_pos c33] at H
        have c33b0 := eq_true c33; have c33b1 : decide (0 ≤ (x6_2.length : Int)) = true := decide_eq_true c33; clear c33
        by_cases c34 : ((x6_2.length : Int) : Int).toNat ≤ 17592186044416
        ·rw [if_pos c34] at H
         have c34b0 := eq_true c34; have c34b1 : decide (((x6_2.length : Int) : Int).toNat ≤ 17592186044416) = true := decide_eq_true c34; clear c34; obtain ⟨y160, hy160⟩ : ∃ y_ : List ByteArray, y_ = (List.replicate ((x6_2.length : Int) : Int).toNat (⟨#[]⟩ : ByteArray)) := ⟨_, rfl⟩; replace H : (tree_Path.l1 k2 x6_2 y160 (x6_2.length : Int) 0) = some (r1, r2) := zh H hy160; have Ny160 := zM hy160; clear hy160; have H' := zM H; clear H; obtain ⟨Ao35, co35, eo35⟩ := Kd.V_slice HO_0.out; subst eo35; obtain ⟨Ao36, co36, eo36⟩ := Kd.R_slice HO_6.out; subst eo36; (go_wp2_with (first | ((with_reducible refine gate_dst (N := 57) rfl ?_); (try (refine gate_guard (by rfl) ?_; dsimp only)); refine Kd.R_make Kd.string _ 9 rfl (N := 57) rfl 22 _ _ rfl (x6_2.length : Int) rfl rfl Tryd.underlying22 (.string ⟨#[]⟩) 16 info9 rfl (by decide) (by omega) (⟨#[]⟩ : ByteArray) (ok := fun _ => True) (okp := fun _ => True) rfl (fun _ hk => hk) trivial (zd) (Nat.le_trans (Nat.mul_le_mul_right _ (zd : (x6_2.length : Int).toNat ≤ 17592186044416)) (by omega)) (Below.refl _ _) (Nat.le_refl _) ?_; intro v161 w37 ho38 hb hg_ hnew_; clear hg_ hnew_; (first | rw [← Ny160.out] at ho38 | (simp only [Int.reduceToNat] at ho38; rw [← Ny160.out] at ho38)); replace HO_0 := zM (Kd.V_elder' (zv HO_0.out) (Kd.R_base ho38) hb); have HO162 := zM (Kd.R_lower (Kd.R_new' (Kd.R_newM (M := fun k_ => (w.heap.size ≤ k_)) ho38 (below_size (zb HB.out)) (fun k_ h_ => h_)) (Kd.R_lt (zr HO_6.out))) (below_size (zb HB.out))); replace HO_6 := zM (Kd.R_elder' (zr HO_6.out) (Kd.R_base ho38) hb); replace HB := zS HB hb; clear hb ho38))); (go_loopg [60] k2 (fun kq v60 w' => ∃ (x8_3 : List ByteArray) (x60_3 : Int), v60 = .int .i64 x60_3 ∧ Aside0 (tree_Path.l1 kq x6_2 x8_3 (x6_2.length : Int) x60_3 = some (r1, r2)) ∧ Aside0 (kq ≤ k2) ∧ Aside0 (Kd.R Kd.string 9 w' w.heap.size (fun k_ => (w.heap.size ≤ k_) ∧ some k_ ≠ (v161 : Value).ownBlock) (.slice Ao36 x6_2.length co36) x6_2) ∧ Aside0 (Kd.R Kd.string 9 w' w.heap.size (fun k_ => (w.heap.size ≤ k_) ∧ some k_ ≠ ((.slice Ao36 x6_2.length co36) : Value).ownBlock) v161 x8_3) ∧ Aside0 (Below w.heap.size w w')))
         case atStart => exact ⟨(y160), (0), zz, H', ⟨Nat.le_refl _⟩, ⟨zr HO_6.out⟩, ⟨by (with_reducible repeat (first | apply Kd.R_alloc | apply Kd.R_drewN | apply Kd.R_drew)); exact Kd.R_mono HO162.out (fun _ hk => ⟨hk.1.1, hk.2⟩)⟩, ⟨zb HB.out⟩⟩
         case round =>
          clear H'; (try clear c1); (try clear q1); (try clear c2); (try clear p2); (try clear q2); (try clear c3); (try clear q3); (try clear c4); (try clear c5); (try clear c6); (try clear c6b0); (try clear p6); (try clear c7); (try clear c8); (try clear c8b0); (try clear c8b1); (try clear c10); (try clear c10b0); (try clear c11); (try clear c11b0); (try clear c11b1); (try clear c12); (try clear c12b0); (try clear c12b1); (try clear c14); (try clear c15); (try clear c15b0); (try clear c16); (try clear c16b0); (try clear c18); (try clear q18); (try clear q21); (try clear c22); (try clear c22b0); (try clear c22b1); (try clear c23); (try clear c23b0); (try clear c23b1); (try clear c25); (try clear c26); (try clear c26b0); (try clear c27); (try clear c27b0); (try clear q29); (try clear c32); (try clear q32); (try clear c33); (try clear c33b0); (try clear c33b1); (try clear c34); (try clear c34b0); (try clear c34b1); (try clear c36); (try clear p2); (try clear q018); (try clear q032); (try clear q18); (try clear q21); (try clear q29); (try clear q32); obtain ⟨x8_3, x60_3, rfl, HA, HK3, HO_6, HO_8, HB⟩ := hrel
          cases gk with
          | zero => exact absurd HA.out (by simp [tree_Path.l1])
          | succ k3 =>
           have H := HA.out; clear HA; simp only [tree_Path.l1] at H
           by_cases c39 : x60_3 < (x6_2.length : Int)
           ·rw [if_pos c39] at H
            have c39b0 : decide (x60_3 < (x6_2.length : Int)) = true := decide_eq_true c39; clear c39
            by_cases c40 : 0 ≤ x60_3
            ·rw [if_pos c40] at H
             have c40b0 : decide (0 ≤ x60_3) = true := decide_eq_true c40; clear c40
             by_cases c41 : x60_3 < (x6_2.length : Int)
             ·rw [if_pos c41] at H
              have c41b0 : decide (x60_3 < (x6_2.length : Int)) = true := decide_eq_true c41; clear c41; obtain ⟨ji42, hji42⟩ : ∃ j_ : Int, (wrap64 ((wrap64 ((x6_2.length : Int) - 1)) - x60_3)) = j_ := ⟨_, rfl⟩; (replace H : (if 0 ≤ (ji42) then (if (ji42) < (x8_3.length : Int) then (tree_Path.l1 k3 x6_2 (x8_3.set ((ji42) : Int).toNat (rdOf ByteArray.empty x6_2 x60_3)) (x6_2.length : Int) (wrap64 (x60_3 + 1))) else (none)) else (none)) = some (r1, r2) := by first | (rw [hji42] at H; exact H) | (simp only [hji42] at H ⊢; exact H)); have hji42w : (IntKind.i64.wrap ((wrap64 ((x6_2.length : Int) - 1)) - x60_3)) = ji42 := (i64_w _).trans hji42
              by_cases c43 : 0 ≤ (ji42)
              ·rw [if_pos c43] at H
               have c43b0 : decide (0 ≤ (ji42)) = true := decide_eq_true c43; clear c43
               by_cases c44 : (ji42) < (x8_3.length : Int)
               ·rw [if_pos c44] at H
                have c44b0 : decide ((ji42) < (x8_3.length : Int)) = true := decide_eq_true c44; clear c44; obtain ⟨y164, hy164⟩ : ∃ y_ : List ByteArray, y_ = (x8_3.set ((ji42) : Int).toNat (rdOf ByteArray.empty x6_2 x60_3)) := ⟨_, rfl⟩; replace H : (tree_Path.l1 k3 x6_2 y164 (x6_2.length : Int) (wrap64 (x60_3 + 1))) = some (r1, r2) := zh H hy164; have Ny164 := zM hy164; clear hy164; have H' := zM H; clear H; have p163 : 0 ≤ (x60_3 : Int) := zd; have q163 : x60_3 < (x6_2.length : Int) := zd; obtain ⟨ad163, e163, hx163_0⟩ := Kd.at_string (Kd.R_reads' HO_6.out).2.2 x60_3 p163 q163; cases e163; replace p163 := eq_true p163; replace q163 := eq_true q163; have p45 : 0 ≤ ((ji42) : Int) := zd; have q45 : ((ji42) : Int) < ((x8_3.length : Int) : Int) := zd; (obtain ⟨go45, co45, eo45, gb45, gl45, cl45, HG45⟩ := Kd.R_form HO_8.out (by omega)); (first | cases eo45 | (injection eo45 with ea_ en_ ec_; (first | subst ea_ | (injection ea_ with ea_; subst ea_)); subst ec_; clear en_)); have GB45 := zM gb45; have GG45 := zM HG45; clear gb45 gl45 HG45; obtain ⟨hx45_0, hf45_0⟩ := Kd.R_celln (⟨#[]⟩ : ByteArray) HO_8.out ((ji42) : Int) p45 q45; replace p45 := eq_true p45; replace q45 := eq_true q45; have HP46 := Kd.R_putg HO_8.out ((ji42) : Int) (rdOf ByteArray.empty x6_2 x60_3); (go_wp2_with (first | ((with_reducible refine gate_store (t := 9) (p := 73) rfl ?_); refine store_event (t := 9) (p := 73) (v := ?vo_w47) (w1 := (wr.setCell ⟨go45, ((ji42) : Int).toNat, none⟩ (.string (rdOf ByteArray.empty x6_2 x60_3)))) ?hg ?ho ?hn ?hr ?_; (case ho => rfl); (case hg => rfl); (case hn => rfl); (case hr => first | (go_simp; done) | (go_simp; rfl)); intro w47 hw; have hg : wr.grownBy w47 (some go45) := (by rw [hw]; exact HP46.2); have hp_ : Kd.R Kd.string 9 w47 w.heap.size (fun k_ => (w.heap.size ≤ k_) ∧ some k_ ≠ (.slice (some ad163) x6_2.length co36 : Value).ownBlock) (.slice (some ⟨go45, 0, none⟩) x8_3.length co45) y164 := (by rw [hw, Ny164.out]; exact HP46.1); clear HP46; replace HO_6 := zM (Kd.R_after (v := (.slice (some ⟨go45, 0, none⟩) x8_3.length co45)) (v1 := (.slice (some ⟨go45, 0, none⟩) x8_3.length co45)) (ok := (fun k_ => (w.heap.size ≤ k_))) (zr HO_6.out) hg (.inl rfl)); replace HO_8 := zM (hp_); replace HB := zM ((by rw [hw]; exact below_set (HB.out) GB45.out : Below w.heap.size w w47)); clear hg hw hp_))); go_roundg k3
                case measure => have := HJ2.out; have := HK2.out; have := HK3.out; omega
                case rel => exact ⟨(y164), (wrap64 (x60_3 + 1)), zz, H', ⟨by have := HJ2.out; have := HK2.out; have := HK3.out; omega⟩, ⟨zr HO_6.out⟩, ⟨zr HO_8.out⟩, ⟨zb HB.out⟩⟩
               ·rw [if_neg c44] at H
                exact absurd H (by simp)
              ·rw [if_neg c43] at H
               exact absurd H (by simp)
             ·rw [if_neg c41] at H
              exact absurd H (by simp)
            ·rw [if_neg c40] at H
             exact absurd H (by simp)
           ·rw [if_neg c39] at H
            have c39b0 : decide (x60_3 < (x6_2.length : Int)) = false := decide_eq_false c39; clear c39; simp only [Option.some.injEq, Prod.mk.injEq] at H; obtain ⟨rfl, rfl⟩ := H; go_wp2; go_ret2; (exact ⟨_, by first | rfl | (simp [errW_none, errW_some] <;> rfl) | (simp [*, errW_none, errW_some] <;> rfl), by (with_reducible repeat (first | apply Kd.R_alloc | apply Kd.R_drewN | apply Kd.R_drew)); exact Kd.R_mono HO_8.out (fun _ hk => hk.1), zb HB.out⟩)
        ·rw [if_neg c34] at H
         exact absurd H (by simp)
       ·rw [if_neg c33] at H
        exact absurd H (by simp)
end Go.Proofs.YtpmefpdafkbphaaDoor.PB
namespace Go.Proofs.YtpmefpdafkbphaaDoor.PB
open HZ Go.RowKit Go.Proofs.YtpmefpdafkbphaaDoor HSha PS PR PT Go.Proofs.YtpmefpdafkbphaaDoorW.PrintWords Go.Proofs.YtpmefpdafkbphaaDoorW.PrintLast Go.Proofs.YtpmefpdafkbphaaDoorW.PrintMore
attribute [local go_sem] max2_int min2_int max_two min_two max_three min_three max_four min_four
set_option linter.unusedVariables false
set_option linter.unusedSimpArgs false
mutual
def tree_sides.l0 : Nat → Int → Int → List Bool → Option (List Bool)
 | 0, _, _, _ => none
 | k + 1, x0, x1, x5 => if x1 > 1 then ((tree_Split.f k x1).bind fun t165 => (if x5.length < 140737488355328 then ((some (x5 ++ [decide (x0 < t165)] : List Bool)).bind fun y166 => (if x0 < t165 then (tree_sides.l0 k x0 t165 y166) else (tree_sides.l0 k (wrap64 (x0 - t165)) (wrap64 (x1 - t165)) y166))) else (none))) else (tree_sides.l1 k x5 0 (wrap64 ((x5.length : Int) - 1)))
def tree_sides.l1 : Nat → List Bool → Int → Int → Option (List Bool)
 | 0, _, _, _ => none
 | k + 1, x5, x7, x8 => if x7 < x8 then (if 0 ≤ x8 then (if x8 < (x5.length : Int) then (if 0 ≤ x7 then (if x7 < (x5.length : Int) then (tree_sides.l1 k ((x5.set (x7 : Int).toNat (rdOf false x5 x8)).set (x8 : Int).toNat (rdOf false x5 x7)) (wrap64 (x7 + 1)) (wrap64 (x8 - 1))) else (none)) else (none)) else (none)) else (none)) else (some x5)
end
def tree_sides.f (k : Nat) (a0 : Int) (a1 : Int) : Option (List Bool) := tree_sides.l0 k a0 a1 ([] : List Bool)
theorem tree_sides.mono_l : ∀ k, (∀ y0 y1 y2, LeO (tree_sides.l0 k y0 y1 y2) (tree_sides.l0 (k + 1) y0 y1 y2)) ∧ (∀ y0 y1 y2, LeO (tree_sides.l1 k y0 y1 y2) (tree_sides.l1 (k + 1) y0 y1 y2))
 | 0 => ⟨fun _ _ _ r h => by simp [tree_sides.l0] at h, fun _ _ _ r h => by simp [tree_sides.l1] at h⟩
 | k + 1 => by
  obtain ⟨ih0, ih1⟩ := tree_sides.mono_l k; refine ⟨?_, ?_⟩
  ·intro y0 y1 y2
   unfold tree_sides.l0
   repeat' first
   | (with_reducible exact ih0 _ _ _)
   | (with_reducible exact ih1 _ _ _)
   | (with_reducible exact tree_Split.mono _ _)
   | (with_reducible exact LeO.refl _)
   | (with_reducible exact LeO.none _)
   | (with_reducible refine LeO.ite ?_ ?_)
   | (with_reducible refine LeO.bind ?_ (fun _ => ?_))
  ·intro y0 y1 y2
   unfold tree_sides.l1
   repeat' first
   | (with_reducible exact ih0 _ _ _)
   | (with_reducible exact ih1 _ _ _)
   | (with_reducible exact tree_Split.mono _ _)
   | (with_reducible exact LeO.refl _)
   | (with_reducible exact LeO.none _)
   | (with_reducible refine LeO.ite ?_ ?_)
   | (with_reducible refine LeO.bind ?_ (fun _ => ?_))
theorem tree_sides.mono : ∀ a0 a1 k, LeO (tree_sides.f k a0 a1) (tree_sides.f (k + 1) a0 a1) := by
 intro a0 a1 k
 obtain ⟨ih0, ih1⟩ := tree_sides.mono_l k
 unfold tree_sides.f
 repeat' first
   | (with_reducible exact ih0 _ _ _)
   | (with_reducible exact ih1 _ _ _)
   | (with_reducible exact tree_Split.mono _ _)
   | (with_reducible exact LeO.refl _)
   | (with_reducible exact LeO.none _)
   | (with_reducible refine LeO.ite ?_ ?_)
   | (with_reducible refine LeO.bind ?_ (fun _ => ?_))
def tree_sides.T11 : Bool × List (List Nat × List Nat) := (true, [([], []), ([], []), ([], []), ([], []), ([], []), ([], []), ([4, 5], [4, 5]), ([6], [6]), ([], []), ([], []), ([8, 9], [8, 9]), ([10], [10]), ([0, 1, 0, 1, 4, 5, 6, 7, 11], [0, 1]), ([12, 7, 0, 1, 4, 5, 6, 7, 11], [7, 12]), ([2, 3, 0, 1, 2, 3, 4, 5, 6, 7, 8, 9, 10, 11, 12, 13], [2, 3]), ([14, 11, 13, 0, 1, 2, 3, 4, 5, 6, 7, 8, 9, 10, 11, 12, 13], [11, 14])])
def tree_sides.B11 : List Nat := [0, 0, 0, 0, 0, 0, 48, 112, 0, 0, 768, 1792, 4083, 8179, 16383, 32767]
theorem tree_sides.tab11 : rtab .any (opsOf Tryd.f67 11) = tree_sides.T11 := by kernel_rfl
theorem tree_sides.bits11 : waitsOk tree_sides.T11.2 tree_sides.B11 = true := by kernel_rfl
set_option maxHeartbeats 8000000 in
set_option maxRecDepth 100000 in
theorem tree_sides.calls (k : Nat) (a0 : Int) (a1 : Int) (r : List Bool) (w : World) (h : tree_sides.f k a0 a1 = some r) :
  Calls Tryd.prog 67 #[.int .i64 a0, .int .i64 a1] w fun e w' => ∃ v0_ : Value, e = .returned (v0_) ∧ Kd.R Kd.bool 4 w' w.heap.size (fun _ => True) v0_ r ∧ Below w.heap.size w w' := by
 have HB := zM (Below.refl w.heap.size w)
 have H : (tree_sides.l0 k a0 a1 ([] : List Bool)) = some r := h
 clear h
 have H' := zM H
 clear H
 go_enter Tryd.func67, Tryd.ntmps67
 go_wp2
 go_loopg [0, 1, 5] k (fun kq v0 v1 v5 w' => ∃ (x0_1 : Int) (x1_1 : Int) (x5_1 : List Bool), v0 = .int .i64 x0_1 ∧ v1 = .int .i64 x1_1 ∧ Aside0 (tree_sides.l0 kq x0_1 x1_1 x5_1 = some r) ∧ Aside0 (kq ≤ k) ∧ Aside0 (Kd.R Kd.bool 4 w' w.heap.size (fun _ => True) v5 x5_1) ∧ Aside0 (Below w.heap.size w w'))
 case atStart => exact ⟨(a0), (a1), (([] : List Bool)), zz, zz, H', ⟨Nat.le_refl _⟩, ⟨by first | exact Kd.R_nil _ _ _ _ _ | exact Kd.N_nil _ _ _ _ _ | exact Kd.V_nil _ _ _ _ _ | exact Kd.Q_nil _ _ _ _ _ | exact Kd.S_nil _ _ _ _ _⟩, ⟨zb HB.out⟩⟩
 case round =>
  clear H'; (try clear p2); obtain ⟨x0_1, x1_1, x5_1, rfl, rfl, HA, HK1, HO_5, HB⟩ := hrel
  cases gk with
  | zero => exact absurd HA.out (by simp [tree_sides.l0])
  | succ k1 =>
   have H := HA.out; clear HA; simp only [tree_sides.l0] at H
   by_cases c3 : x1_1 > 1
   ·rw [if_pos c3] at H
    have c3b0 : decide (1 < x1_1) = true := decide_eq_true c3; clear c3; replace H := zB H; obtain ⟨t165, A40, H⟩ := H; (replace H : (if x5_1.length < 140737488355328 then ((some (x5_1 ++ [decide (x0_1 < t165)] : List Bool)).bind fun y166 => (if x0_1 < t165 then (tree_sides.l0 k1 x0_1 t165 y166) else (tree_sides.l0 k1 (wrap64 (x0_1 - t165)) (wrap64 (x1_1 - t165)) y166))) else (none)) = some r := H); have A4 := zM A40; clear A40
    by_cases c5 : x5_1.length < 140737488355328
    ·rw [if_pos c5] at H
     have LMc5 := zM c5; clear c5; obtain ⟨y166, hy166⟩ : ∃ y_ : List Bool, y_ = (x5_1 ++ [decide (x0_1 < t165)]) := ⟨_, rfl⟩; (replace H : (if x0_1 < t165 then (tree_sides.l0 k1 x0_1 t165 y166) else (tree_sides.l0 k1 (wrap64 (x0_1 - t165)) (wrap64 (x1_1 - t165)) y166)) = some r := zh H hy166); have Ny166 := zM hy166; clear hy166
     by_cases c6 : x0_1 < t165
     ·rw [if_pos c6] at H
      have c6b0 : decide (x0_1 < t165) = true := decide_eq_true c6; clear c6; have H' := zM H; clear H; (try rw [c6b0] at Ny166); (go_wp2_with (first | ((with_reducible refine gate_callee (f := 49) rfl ?_); refine goesL_ (some 12) rfl rfl Tryd.func49 (by kernel_rfl) rfl #[.int .i64 x1_1] rfl zm ?_; (with_reducible refine (tree_Split.calls k1 x1_1 t165 _ A4.out).mono ?_); rintro e w' ⟨rfl, ⟨nd, rfl⟩⟩; refine ⟨_, rfl, ?_⟩) | ((with_reducible refine gate_builtin (b := .append) (xs := #[.tmp 13, .tmp 17]) rfl ?_); at_builtin; refine Kd.R_append Kd.bool (w0 := w) w.heap.size rfl (.tmp 13) (.tmp 17) 83 4 (.bool false) 1 rfl Tryd.underlying83 info4 rfl (by decide) (by omega) u5 x5_1 true [.bool true] (fun _ => True) (fun _ => False) rfl rfl ?aP (fun _ hk => hk.elim) ?aF ?aO ?aB ?aS ?aL ?_; (case aP => exact rfl); (case aB => exact (zb HB.out)); (case aF => exact (fun _ _ => trivial)); (case aO => exact (zr HO_5.out)); (case aS => exact (below_size (zb HB.out))); (case aL => have := LMc5.out; omega); intro v167 w7 ho hb hg hat; rw [← Ny166.out] at ho; replace HB := zM (hb); have HO168 := zM (ho); clear HO_5 ho hb hg hat))); go_roundg k1
      case measure => have := HK1.out; omega
      case rel => exact ⟨(x0_1), (t165), (y166), zz, zz, H', ⟨by have := HK1.out; omega⟩, ⟨zr HO168.out⟩, ⟨zb HB.out⟩⟩
     ·rw [if_neg c6] at H
      have c6b0 : decide (x0_1 < t165) = false := decide_eq_false c6; clear c6; have H' := zM H; clear H; (try rw [c6b0] at Ny166); (go_wp2_with (first | ((with_reducible refine gate_callee (f := 49) rfl ?_); refine goesL_ (some 12) rfl rfl Tryd.func49 (by kernel_rfl) rfl #[.int .i64 x1_1] rfl zm ?_; (with_reducible refine (tree_Split.calls k1 x1_1 t165 _ A4.out).mono ?_); rintro e w' ⟨rfl, ⟨nd, rfl⟩⟩; refine ⟨_, rfl, ?_⟩) | ((with_reducible refine gate_builtin (b := .append) (xs := #[.tmp 13, .tmp 17]) rfl ?_); at_builtin; refine Kd.R_append Kd.bool (w0 := w) w.heap.size rfl (.tmp 13) (.tmp 17) 83 4 (.bool false) 1 rfl Tryd.underlying83 info4 rfl (by decide) (by omega) u5 x5_1 false [.bool false] (fun _ => True) (fun _ => False) rfl rfl ?aP (fun _ hk => hk.elim) ?aF ?aO ?aB ?aS ?aL ?_; (case aP => exact rfl); (case aB => exact (zb HB.out)); (case aF => exact (fun _ _ => trivial)); (case aO => exact (zr HO_5.out)); (case aS => exact (below_size (zb HB.out))); (case aL => have := LMc5.out; omega); intro v167 w8 ho hb hg hat; rw [← Ny166.out] at ho; replace HB := zM (hb); have HO168 := zM (ho); clear HO_5 ho hb hg hat))); go_roundg k1
      case measure => have := HK1.out; omega
      case rel => exact ⟨(wrap64 (x0_1 - t165)), (wrap64 (x1_1 - t165)), (y166), zz, zz, H', ⟨by have := HK1.out; omega⟩, ⟨zr HO168.out⟩, ⟨zb HB.out⟩⟩
    ·rw [if_neg c5] at H
     exact absurd H (by simp)
   ·rw [if_neg c3] at H
    have c3b0 : decide (1 < x1_1) = false := decide_eq_false c3; clear c3; have H' := zM H; clear H; obtain ⟨Ao9, co9, eo9⟩ := Kd.R_slice HO_5.out; subst eo9; go_wp2; (go_loopg [7, 8] k1 (fun kq v7 v8 w' => ∃ (x5_2 : List Bool) (x7_2 : Int) (x8_2 : Int), v7 = .int .i64 x7_2 ∧ v8 = .int .i64 x8_2 ∧ Aside0 (tree_sides.l1 kq x5_2 x7_2 x8_2 = some r) ∧ Aside0 (kq ≤ k1) ∧ Aside0 (Kd.R Kd.bool 4 w' w.heap.size (fun _ => True) (.slice Ao9 x5_1.length co9) x5_2) ∧ Aside0 (Below w.heap.size w w')))
    case atStart => exact ⟨(x5_1), (0), (wrap64 ((x5_1.length : Int) - 1)), zz, zz, H', ⟨Nat.le_refl _⟩, ⟨zr HO_5.out⟩, ⟨zb HB.out⟩⟩
    case round =>
     clear H'; (try clear p2); (try clear c3); (try clear c3b0); (try clear c4); (try clear c5); (try clear c6); (try clear c6b0); (try clear p6); (try clear p2); obtain ⟨x5_2, x7_2, x8_2, rfl, rfl, HA, HK2, HO_5, HB⟩ := hrel; have hl5_2 := (Kd.R_reads' HO_5.out).1; rw [hl5_2] at HO_5; (try simp only [hl5_2])
     cases gk with
     | zero => exact absurd HA.out (by simp [tree_sides.l1])
     | succ k2 =>
      have H := HA.out; clear HA; simp only [tree_sides.l1] at H
      by_cases c10 : x7_2 < x8_2
      ·rw [if_pos c10] at H
       have c10b0 : decide (x7_2 < x8_2) = true := decide_eq_true c10; clear c10
       by_cases c11 : 0 ≤ x8_2
       ·rw [if_pos c11] at H
        have c11b0 : decide (0 ≤ x8_2) = true := decide_eq_true c11; clear c11
        by_cases c12 : x8_2 < (x5_2.length : Int)
        ·rw [if_pos c12] at H
         have c12b0 : decide (x8_2 < (x5_2.length : Int)) = true := decide_eq_true c12; clear c12
         by_cases c13 : 0 ≤ x7_2
         ·rw [if_pos c13] at H
          have c13b0 : decide (0 ≤ x7_2) = true := decide_eq_true c13; clear c13
          by_cases c14 : x7_2 < (x5_2.length : Int)
          ·rw [if_pos c14] at H
           have c14b0 : decide (x7_2 < (x5_2.length : Int)) = true := decide_eq_true c14; clear c14; obtain ⟨y171, hy171⟩ : ∃ y_ : List Bool, y_ = (x5_2.set (x7_2 : Int).toNat (rdOf false x5_2 x8_2)) := ⟨_, rfl⟩; replace H : (tree_sides.l1 k2 (y171.set (x8_2 : Int).toNat (rdOf false x5_2 x7_2)) (wrap64 (x7_2 + 1)) (wrap64 (x8_2 - 1))) = some r := zh H hy171; have Ny171 := zM hy171; clear hy171; obtain ⟨y172, hy172⟩ : ∃ y_ : List Bool, y_ = (y171.set (x8_2 : Int).toNat (rdOf false x5_2 x7_2)) := ⟨_, rfl⟩; replace H : (tree_sides.l1 k2 y172 (wrap64 (x7_2 + 1)) (wrap64 (x8_2 - 1))) = some r := zh H hy172; have Ny172 := zM hy172; clear hy172; have H' := zM H; clear H; (try go_wp2); replace HO_5 := zM (Kd.R_drew HO_5.out); replace HB := zM (below_drew1 HB.out); have p169 : 0 ≤ (x8_2 : Int) := zd; have q169 : x8_2 < (x5_2.length : Int) := zd; obtain ⟨ad169, e169, hx169_0⟩ := Kd.at_bool (Kd.R_reads' HO_5.out).2.2 x8_2 p169 q169; cases e169; replace p169 := eq_true p169; replace q169 := eq_true q169; have p170 : 0 ≤ (x7_2 : Int) := zd; have q170 : x7_2 < (x5_2.length : Int) := zd; obtain ⟨ad170, e170, hx170_0⟩ := Kd.at_bool (Kd.R_reads' HO_5.out).2.2 x7_2 p170 q170; (obtain rfl : ad169 = ad170 := (by injection e170)); replace p170 := eq_true p170; replace q170 := eq_true q170; have p15 : 0 ≤ (x7_2 : Int) := zd; have q15 : (x7_2 : Int) < ((x5_2.length : Int) : Int) := zd; (obtain ⟨go15, co15, eo15, gb15, gl15, cl15, HG15⟩ := Kd.R_form HO_5.out (by omega)); (first | cases eo15 | (injection eo15 with ea_ en_ ec_; (first | subst ea_ | (injection ea_ with ea_; subst ea_)); subst ec_; clear en_)); have GB15 := zM gb15; have GG15 := zM HG15; clear gb15 gl15 HG15; (first | simp only [add_plain] at hx169_0 | skip); (first | simp only [add_plain] at hx170_0 | skip); obtain ⟨hx15_0, hf15_0⟩ := Kd.R_celln false HO_5.out (x7_2 : Int) p15 q15; replace p15 := eq_true p15; replace q15 := eq_true q15; have HP18 := Kd.R_putn HO_5.out (x7_2 : Int) (rdOf false x5_2 x8_2); rw [← Ny171.out] at HP18; have HQ18 := zM HP18; clear HP18; have p16 : 0 ≤ (x8_2 : Int) := zd; have q16 : (x8_2 : Int) < ((x5_2.length : Int) : Int) := zd; obtain ⟨hx16_0, hf16_0⟩ := Kd.R_celln false HQ18.out (x8_2 : Int) p16 q16; replace p16 := eq_true p16; replace q16 := eq_true q16; have HP19 := Kd.R_putn HQ18.out (x8_2 : Int) (rdOf false x5_2 x7_2); rw [← Ny172.out] at HP19; have HQ19 := zM HP19; clear HP19; (refine start_ (n := 16) (S := fun w' => w'.cell? ⟨go15, (x8_2).toNat, none⟩ = some (.bool (rdOf false x5_2 x8_2)) ∧ w'.cell? ⟨go15, (x7_2).toNat, none⟩ = some (.bool (rdOf false x5_2 x7_2))) (ds := [13, 15]) #[false, false, false, false, false, false, false, false, false, false, false, false, false, false, false, false] (by kernel_rfl) rfl rfl ⟨hx169_0, hx170_0⟩ (fun hHeld => ?_); refine with_tabW tree_sides.tab11 tree_sides.bits11 (fun HT_ HW_ => ?_)); (generalize wr.drew = w17 at HO_5 HB GG15 HQ18 HQ19 hf15_0 hf16_0 hx15_0 hx169_0 hx16_0 hx170_0 hHeld ⊢); (refine HBulk.bulkT (fuel := 3) HT_.out HW_.out [(0, some 39, false), (1, some 40, false), (2, some 41, false), (3, some 42, false), (4, some 43, false), (5, some 44, false), (6, some 45, false), (8, some 47, false), (9, some 48, false), (10, some 49, false), (7, some 46, true), (11, some 50, true), (12, some 51, false)] #[true, true, true, true, true, true, true, true, true, true, true, true, true, false, false, false] (a' := ?_) (by kernel_rfl) rfl hHeld ?_ ?_); rotate_left
           ·repeat
             (refine HBulk.RunsM.cons (v := ?_) (a1 := ?_) rfl rfl (fun _ _ _ h => h) (by rfl) ?_ ?_ ?_); rotate_left
             ·intro w' hS_; (try (obtain ⟨s0, s1⟩ := hS_ rfl))
              go_simp; (with_reducible rfl)
             rotate_left
             ·simp only [Act.put, zl, i64_w, i32_w]
              rfl
            exact HBulk.RunsM.nil
           (refine last_ (i := 13) (N := none) #[true, true, true, true, true, true, true, true, true, true, true, true, true, true, false, false] rfl rfl (one_of HT_.out (by kernel_rfl)) (by decide) (fun K hK => ?_)); (refine skip_ (w1 := ?_) (by rfl) rfl ?_ ?_); rotate_left
           ·go_simp
            rfl
           refine hK.out _ _ ?_; clear hK K; (refine pure_ (i := 14) (N := some 52) (v := ?_) (a' := ?_) #[true, true, true, true, true, true, true, true, true, true, true, true, true, true, true, false] rfl rfl (any_of HT_.out (by kernel_rfl)) (fun _ _ _ h => h) (Or.inl ⟨by rfl, ?_⟩) ?_ ?_); rotate_left
           ·intro w'
            go_simp; (with_reducible rfl)
           rotate_left
           ·simp only [Act.put, zl, i64_w, i32_w]
            rfl
           (refine last_ (i := 15) (N := none) #[true, true, true, true, true, true, true, true, true, true, true, true, true, true, true, true] rfl rfl (one_of HT_.out (by kernel_rfl)) (by decide) (fun K hK => ?_)); (refine skip_ (w1 := ?_) (by rfl) rfl ?_ ?_); rotate_left
           ·go_simp
            rfl
           refine hK.out _ _ ?_; clear hK K; (refine done_ (done_of HT_.out (by kernel_rfl)) ?_); (try go_wp2); (try simp only [← hl5_2]); go_roundg k2
           case measure => have := HK1.out; have := HK2.out; omega
           case rel => exact ⟨(y172), (wrap64 (x7_2 + 1)), (wrap64 (x8_2 - 1)), zz, zz, H', ⟨by have := HK1.out; have := HK2.out; omega⟩, ⟨by (try simp only [hl5_2]); (with_reducible repeat (first | apply Kd.R_alloc | apply Kd.R_drewN | apply Kd.R_drew)); exact HQ19.out⟩, ⟨zb2 HB.out GB15.out GB15.out⟩⟩
          ·rw [if_neg c14] at H
           exact absurd H (by simp)
         ·rw [if_neg c13] at H
          exact absurd H (by simp)
        ·rw [if_neg c12] at H
         exact absurd H (by simp)
       ·rw [if_neg c11] at H
        exact absurd H (by simp)
      ·rw [if_neg c10] at H
       have c10b0 : decide (x7_2 < x8_2) = false := decide_eq_false c10; clear c10; obtain rfl := Option.some.inj H; go_wp2; go_ret; (exact ⟨_, by first | rfl | (simp [errW_none, errW_some] <;> rfl) | (simp [*, errW_none, errW_some] <;> rfl), zr HO_5.out, zb HB.out⟩)
mutual
def tree_Climb.j0 : Nat → ByteArray → Int → Int → List ByteArray → Bool → Option (ByteArray × Int)
 | 0, _, _, _, _, _ => none
 | k + 1, x0, x1, x2, x3, x32 => if x32 = true then (some ((⟨#[]⟩ : ByteArray), 1)) else ((tree_sides.f k x1 x2).bind fun t173 => (if (t173.length : Int) = (x3.length : Int) then ((tree_all.f k x3).bind fun t176 => (tree_Climb.j1 k x0 x3 t173 (!t176))) else (tree_Climb.j1 k x0 x3 t173 true)))
def tree_Climb.j1 : Nat → ByteArray → List ByteArray → List Bool → Bool → Option (ByteArray × Int)
 | 0, _, _, _, _ => none
 | k + 1, x0, x3, x10, x45 => if x45 = true then (some ((⟨#[]⟩ : ByteArray), 6)) else (tree_Climb.l0 k x0 x3 x10 (x10.length : Int) 0)
def tree_Climb.l0 : Nat → ByteArray → List ByteArray → List Bool → Int → Int → Option (ByteArray × Int)
 | 0, _, _, _, _, _ => none
 | k + 1, x0, x3, x46, x47, x48 => if x48 < x47 then (if 0 ≤ x48 then (if x48 < (x46.length : Int) then (if rdOf false x46 x48 = true then (if x48 < (x3.length : Int) then ((tree_node.f k x0 (rdOf ByteArray.empty x3 x48)).bind fun t179 => (tree_Climb.l0 k t179 x3 x46 x47 (wrap64 (x48 + 1)))) else (none)) else (if x48 < (x3.length : Int) then ((tree_node.f k (rdOf ByteArray.empty x3 x48) x0).bind fun t181 => (tree_Climb.l0 k t181 x3 x46 x47 (wrap64 (x48 + 1)))) else (none))) else (none)) else (none)) else (some (x0, 0))
end
def tree_Climb.f (k : Nat) (a0 : ByteArray) (a1 : Int) (a2 : Int) (l3 : List ByteArray) : Option (ByteArray × Int) := if (a0.size : Int) = 32 then (if a2 < 1 then (tree_Climb.j0 k a0 a1 a2 l3 true) else (if a2 > 1099511627776 then (tree_Climb.j0 k a0 a1 a2 l3 true) else (if a1 < 0 then (tree_Climb.j0 k a0 a1 a2 l3 true) else (tree_Climb.j0 k a0 a1 a2 l3 (decide (a1 ≥ a2)))))) else (tree_Climb.j0 k a0 a1 a2 l3 true)
theorem tree_Climb.mono_l : ∀ k, (∀ y0 y1 y2 y3 y4, LeO (tree_Climb.j0 k y0 y1 y2 y3 y4) (tree_Climb.j0 (k + 1) y0 y1 y2 y3 y4)) ∧ (∀ y0 y1 y2 y3, LeO (tree_Climb.j1 k y0 y1 y2 y3) (tree_Climb.j1 (k + 1) y0 y1 y2 y3)) ∧ (∀ y0 y1 y2 y3 y4, LeO (tree_Climb.l0 k y0 y1 y2 y3 y4) (tree_Climb.l0 (k + 1) y0 y1 y2 y3 y4))
 | 0 => ⟨fun _ _ _ _ _ r h => by simp [tree_Climb.j0] at h, fun _ _ _ _ r h => by simp [tree_Climb.j1] at h, fun _ _ _ _ _ r h => by simp [tree_Climb.l0] at h⟩
 | k + 1 => by
  obtain ⟨ih0, ih1, ih2⟩ := tree_Climb.mono_l k; refine ⟨?_, ?_, ?_⟩
  ·intro y0 y1 y2 y3 y4
   unfold tree_Climb.j0
   repeat' first
   | (with_reducible exact ih0 _ _ _ _ _)
   | (with_reducible exact ih1 _ _ _ _)
   | (with_reducible exact ih2 _ _ _ _ _)
   | (with_reducible exact tree_all.mono _ _)
   | (with_reducible exact tree_node.mono _ _ _)
   | (with_reducible exact tree_sides.mono _ _ _)
   | (with_reducible exact LeO.refl _)
   | (with_reducible exact LeO.none _)
   | (with_reducible refine LeO.ite ?_ ?_)
   | (with_reducible refine LeO.bind ?_ (fun _ => ?_))
  ·intro y0 y1 y2 y3
   unfold tree_Climb.j1
   repeat' first
   | (with_reducible exact ih0 _ _ _ _ _)
   | (with_reducible exact ih1 _ _ _ _)
   | (with_reducible exact ih2 _ _ _ _ _)
   | (with_reducible exact tree_all.mono _ _)
   | (with_reducible exact tree_node.mono _ _ _)
   | (with_reducible exact tree_sides.mono _ _ _)
   | (with_reducible exact LeO.refl _)
   | (with_reducible exact LeO.none _)
   | (with_reducible refine LeO.ite ?_ ?_)
   | (with_reducible refine LeO.bind ?_ (fun _ => ?_))
  ·intro y0 y1 y2 y3 y4
   unfold tree_Climb.l0
   repeat' first
   | (with_reducible exact ih0 _ _ _ _ _)
   | (with_reducible exact ih1 _ _ _ _)
   | (with_reducible exact ih2 _ _ _ _ _)
   | (with_reducible exact tree_all.mono _ _)
   | (with_reducible exact tree_node.mono _ _ _)
   | (with_reducible exact tree_sides.mono _ _ _)
   | (with_reducible exact LeO.refl _)
   | (with_reducible exact LeO.none _)
   | (with_reducible refine LeO.ite ?_ ?_)
   | (with_reducible refine LeO.bind ?_ (fun _ => ?_))
theorem tree_Climb.mono : ∀ a0 a1 a2 a3 k, LeO (tree_Climb.f k a0 a1 a2 a3) (tree_Climb.f (k + 1) a0 a1 a2 a3) := by
 intro a0 a1 a2 a3 k
 obtain ⟨ih0, ih1, ih2⟩ := tree_Climb.mono_l k
 unfold tree_Climb.f
 repeat' first
   | (with_reducible exact ih0 _ _ _ _ _)
   | (with_reducible exact ih1 _ _ _ _)
   | (with_reducible exact ih2 _ _ _ _ _)
   | (with_reducible exact tree_all.mono _ _)
   | (with_reducible exact tree_node.mono _ _ _)
   | (with_reducible exact tree_sides.mono _ _ _)
   | (with_reducible exact LeO.refl _)
   | (with_reducible exact LeO.none _)
   | (with_reducible refine LeO.ite ?_ ?_)
   | (with_reducible refine LeO.bind ?_ (fun _ => ?_))
set_option maxHeartbeats 8000000 in
set_option maxRecDepth 100000 in
theorem tree_Climb.calls (k : Nat) (a0 : ByteArray) (a1 : Int) (a2 : Int) (A3 : Option Addr) (c3 : Nat) (l3 : List ByteArray) (r1 : ByteArray) (r2 : Int) (w : World) (hG_ : Aside0 (GW w)) (hr3 : Kd.C Kd.string w A3 l3.length l3) (hc3 : l3.length ≤ c3) (h : tree_Climb.f k a0 a1 a2 l3 = some (r1, r2)) :
  Calls Tryd.prog 32 #[.string a0, .int .i64 a1, .int .i64 a2, .slice A3 l3.length c3] w fun e w' => e = .returned (.tuple #[.string r1, .int .i64 r2]) ∧ Below w.heap.size w w' := by
 have HR3 := zM hr3
 have HC3 := zM hc3
 clear hr3 hc3
 have HB := zM (Below.refl w.heap.size w)
 have H : (if (a0.size : Int) = 32 then (if a2 < 1 then (tree_Climb.j0 k a0 a1 a2 l3 true) else (if a2 > 1099511627776 then (tree_Climb.j0 k a0 a1 a2 l3 true) else (if a1 < 0 then (tree_Climb.j0 k a0 a1 a2 l3 true) else (tree_Climb.j0 k a0 a1 a2 l3 (decide (a1 ≥ a2)))))) else (tree_Climb.j0 k a0 a1 a2 l3 true)) = some (r1, r2) := h
 clear h
 have HC5 := zM H
 clear H
 go_enter Tryd.func32, Tryd.ntmps32
 go_upto_region 1 with (fail)
 go_cut [32] (fun v32 wc => ∃ (kq : Nat) (x32_4 : Bool), v32 = .bool x32_4 ∧ Aside0 (tree_Climb.j0 kq a0 a1 a2 l3 x32_4 = some (r1, r2)) ∧ Aside0 (kq ≤ k) ∧ Aside0 (Below w.heap.size w wc))
 case first =>
  have H := HC5.out; clear HC5
  by_cases c6 : (a0.size : Int) = 32
  ·rw [if_pos c6] at H
   have c6b0 : ((a0.size : Int) == 32) = true := beq_iff_eq.mpr c6; have c6b1 : ((a0.size : Int) != 32) = false := bne_eq_false_iff_eq.mpr c6; clear c6; (first | rw [c6b0] | (simp only [i64_w, i32_w]; rw [c6b0]) | skip)
   by_cases c7 : a2 < 1
   ·rw [if_pos c7] at H
    have c7b0 : decide (a2 < 1) = true := decide_eq_true c7; clear c7; have H' := zM H; clear H; go_wp2; go_meet
    case rel => exact ⟨_, (true), zz, H', ⟨by first | omega | exact Nat.le_refl _⟩, ⟨zb HB.out⟩⟩
   ·rw [if_neg c7] at H
    have c7b0 : decide (a2 < 1) = false := decide_eq_false c7; clear c7
    by_cases c8 : a2 > 1099511627776
    ·rw [if_pos c8] at H
     have c8b0 : decide (1099511627776 < a2) = true := decide_eq_true c8; clear c8; have H' := zM H; clear H; go_wp2; go_meet
     case rel => exact ⟨_, (true), zz, H', ⟨by first | omega | exact Nat.le_refl _⟩, ⟨zb HB.out⟩⟩
    ·rw [if_neg c8] at H
     have c8b0 : decide (1099511627776 < a2) = false := decide_eq_false c8; clear c8
     by_cases c9 : a1 < 0
     ·rw [if_pos c9] at H
      have c9b0 : decide (a1 < 0) = true := decide_eq_true c9; clear c9; have H' := zM H; clear H; go_wp2; go_meet
      case rel => exact ⟨_, (true), zz, H', ⟨by first | omega | exact Nat.le_refl _⟩, ⟨zb HB.out⟩⟩
     ·rw [if_neg c9] at H
      have c9b0 : decide (a1 < 0) = false := decide_eq_false c9; clear c9; have H' := zM H; clear H; go_wp2; go_meet
      case rel => exact ⟨_, (decide (a1 ≥ a2)), zz, H', ⟨by first | omega | exact Nat.le_refl _⟩, ⟨zb HB.out⟩⟩
  ·rw [if_neg c6] at H
   have c6b0 : ((a0.size : Int) == 32) = false := beq_eq_false_iff_ne.mpr c6; have c6b1 : ((a0.size : Int) != 32) = true := bne_iff_ne.mpr c6; (first | rw [c6b0] | (simp only [i64_w, i32_w]; rw [c6b0]) | skip); have H' := zM H; clear H; go_wp2; go_meet
   case rel => exact ⟨_, (true), zz, H', ⟨by first | omega | exact Nat.le_refl _⟩, ⟨zb HB.out⟩⟩
 case rest =>
  clear HC5; (try clear p2); (try clear c3); (try clear c6); (try clear c6b0); (try clear c6b1); (try clear c7); (try clear c7b0); (try clear c8); (try clear c8b0); (try clear c9); (try clear c9b0); obtain ⟨kq, x32_4, rfl, HA, HJ4, HB⟩ := hcut
  cases kq with
  | zero => exact absurd HA.out (by simp [tree_Climb.j0])
  | succ kj4 =>
   have H := HA.out; clear HA; simp only [tree_Climb.j0] at H
   by_cases c10 : x32_4 = true
   ·subst c10
    (have H1 : (some ((⟨#[]⟩ : ByteArray), 1)) = some (r1, r2) := by rw [if_pos rfl] at H; exact H); clear H; have H := H1; clear H1; simp only [Option.some.injEq, Prod.mk.injEq] at H; obtain ⟨rfl, rfl⟩ := H; go_wp2; go_ret2; (exact ⟨by first | rfl | (simp [errW_none, errW_some] <;> rfl) | (simp [*, errW_none, errW_some] <;> rfl), zb HB.out⟩)
   ·replace c10 := Bool.eq_false_iff.mpr c10
    subst c10; (have H1 : ((tree_sides.f kj4 a1 a2).bind fun t173 => (if (t173.length : Int) = (l3.length : Int) then ((tree_all.f kj4 l3).bind fun t176 => (tree_Climb.j1 kj4 a0 l3 t173 (!t176))) else (tree_Climb.j1 kj4 a0 l3 t173 true))) = some (r1, r2) := by rw [if_neg (show ¬ (false = true) by decide)] at H; exact H); clear H; have H := H1; clear H1; replace H := zB H; obtain ⟨t173, A110, H⟩ := H; (replace H : (if (t173.length : Int) = (l3.length : Int) then ((tree_all.f kj4 l3).bind fun t176 => (tree_Climb.j1 kj4 a0 l3 t173 (!t176))) else (tree_Climb.j1 kj4 a0 l3 t173 true)) = some (r1, r2) := H); have A11 := zM A110; clear A110; have HC12 := zM H; clear H; (go_upto_region 4 with (first | ((with_reducible refine gate_callee (f := 67) rfl ?_); refine goesL_ (some 35) rfl rfl Tryd.func67 (by kernel_rfl) rfl #[.int .i64 a1, .int .i64 a2] rfl zm ?_; (with_reducible refine (tree_sides.calls kj4 a1 a2 t173 _ A11.out).mono ?_); rintro e w13 ⟨v174, rfl, ho0, hb⟩; refine ⟨_, rfl, ?_⟩; have HO175 := zL ho0 HB; replace HB := zS HB hb; (try clear hb); (try clear ho0)))); (try simp only [Act.put, List.setIfInBounds_toArray, List.set_cons_zero, List.set_cons_succ]); (go_cut [45] (fun v45 wc => ∃ (kq : Nat) (x45_11 : Bool), v45 = .bool x45_11 ∧ Aside0 (tree_Climb.j1 kq a0 l3 t173 x45_11 = some (r1, r2)) ∧ Aside0 (kq ≤ kj4) ∧ Aside0 (Kd.R Kd.bool 4 wc w.heap.size (fun _ => True) v174 t173) ∧ Aside0 (Below w.heap.size w wc)))
    case first =>
     have H := HC12.out; clear HC12
     by_cases c14 : (t173.length : Int) = (l3.length : Int)
     ·rw [if_pos c14] at H
      have c14b0 : ((t173.length : Int) == (l3.length : Int)) = true := beq_iff_eq.mpr c14; have c14b1 : ((t173.length : Int) != (l3.length : Int)) = false := bne_eq_false_iff_eq.mpr c14; (have c14b2 : (t173.length == l3.length) = true := by first | simpa using c14 | (simp at c14 ⊢; omega)); clear c14; (first | rw [c14b0] | (simp only [i64_w, i32_w]; rw [c14b0]) | skip); replace H := zB H; obtain ⟨t176, A150, H⟩ := H; replace H : (tree_Climb.j1 kj4 a0 l3 t173 (!t176)) = some (r1, r2) := H; have A15 := zM A150; clear A150; have H' := zM H; clear H; obtain ⟨Ao16, co16, eo16⟩ := Kd.R_slice HO175.out; subst eo16; (go_wp2_with (first | (go_at_call 55; (with_reducible refine (tree_all.calls kj4 _ _ l3 t176 _ ?side1 ?side2 A15.out).mono ?_); (case side1 => exact zc (Kd.C_below HR3.out HB.out)); (case side2 => exact HC3.out); rintro e w' ⟨rfl, ⟨nd, rfl⟩⟩))); go_meet
      case rel => exact ⟨_, (!t176), zz, H', ⟨by have := HJ4.out; first | omega | exact Nat.le_refl _⟩, ⟨zr HO175.out⟩, ⟨zb HB.out⟩⟩
     ·rw [if_neg c14] at H
      have c14b0 : ((t173.length : Int) == (l3.length : Int)) = false := beq_eq_false_iff_ne.mpr c14; have c14b1 : ((t173.length : Int) != (l3.length : Int)) = true := bne_iff_ne.mpr c14; (have c14b2 : (t173.length == l3.length) = false := by first | simpa using c14 | (simp at c14 ⊢; omega)); (first | rw [c14b0] | (simp only [i64_w, i32_w]; rw [c14b0]) | skip); have H' := zM H; clear H; obtain ⟨Ao17, co17, eo17⟩ := Kd.R_slice HO175.out; subst eo17; go_wp2; go_meet
      case rel => exact ⟨_, (true), zz, H', ⟨by have := HJ4.out; first | omega | exact Nat.le_refl _⟩, ⟨zr HO175.out⟩, ⟨zb HB.out⟩⟩
    case rest =>
     clear HC12; (try clear c1); (try clear p2); (try clear c3); (try clear c6); (try clear c6b0); (try clear c6b1); (try clear c7); (try clear c7b0); (try clear c8); (try clear c8b0); (try clear c9); (try clear c9b0); (try clear c10); (try clear c14); (try clear c14b0); (try clear c14b1); (try clear c14b2); (try clear p2); obtain ⟨kq, x45_11, rfl, HA, HJ11, HO_10, HB⟩ := hcut
     cases kq with
     | zero => exact absurd HA.out (by simp [tree_Climb.j1])
     | succ kj11 =>
      have H := HA.out; clear HA; simp only [tree_Climb.j1] at H
      by_cases c18 : x45_11 = true
      ·subst c18
       (have H1 : (some ((⟨#[]⟩ : ByteArray), 6)) = some (r1, r2) := by rw [if_pos rfl] at H; exact H); clear H; have H := H1; clear H1; simp only [Option.some.injEq, Prod.mk.injEq] at H; obtain ⟨rfl, rfl⟩ := H; go_wp2; go_ret2; (exact ⟨by first | rfl | (simp [errW_none, errW_some] <;> rfl) | (simp [*, errW_none, errW_some] <;> rfl), zb HB.out⟩)
      ·replace c18 := Bool.eq_false_iff.mpr c18
       subst c18; (have H1 : (tree_Climb.l0 kj11 a0 l3 t173 (t173.length : Int) 0) = some (r1, r2) := by rw [if_neg (show ¬ (false = true) by decide)] at H; exact H); clear H; have H := H1; clear H1; have H' := zM H; clear H; obtain ⟨Ao19, co19, eo19⟩ := Kd.R_slice HO_10.out; subst eo19; go_wp2; (go_loopg [0, 48] kj11 (fun kq v0 v48 w' => ∃ (x0_3 : ByteArray) (x48_3 : Int), v0 = .string x0_3 ∧ v48 = .int .i64 x48_3 ∧ Aside0 (tree_Climb.l0 kq x0_3 l3 t173 (t173.length : Int) x48_3 = some (r1, r2)) ∧ Aside0 (kq ≤ kj11) ∧ Aside0 (Kd.R Kd.bool 4 w' w.heap.size (fun _ => True) (.slice Ao19 t173.length co19) t173) ∧ Aside0 (Below w.heap.size w w')))
       case atStart => exact ⟨(a0), (0), zz, zz, H', ⟨Nat.le_refl _⟩, ⟨zr HO_10.out⟩, ⟨zb HB.out⟩⟩
       case round =>
        clear H'; (try clear c1); (try clear p2); (try clear c3); (try clear c6); (try clear c6b0); (try clear c6b1); (try clear c7); (try clear c7b0); (try clear c8); (try clear c8b0); (try clear c9); (try clear c9b0); (try clear c10); (try clear c14); (try clear c14b0); (try clear c14b1); (try clear c14b2); (try clear c18); (try clear p2); obtain ⟨x0_3, x48_3, rfl, rfl, HA, HK3, HO_46, HB⟩ := hrel
        cases gk with
        | zero => exact absurd HA.out (by simp [tree_Climb.l0])
        | succ k3 =>
         have H := HA.out; clear HA; simp only [tree_Climb.l0] at H
         by_cases c20 : x48_3 < (t173.length : Int)
         ·rw [if_pos c20] at H
          have c20b0 : decide (x48_3 < (t173.length : Int)) = true := decide_eq_true c20; clear c20
          by_cases c21 : 0 ≤ x48_3
          ·rw [if_pos c21] at H
           have c21b0 : decide (0 ≤ x48_3) = true := decide_eq_true c21; clear c21
           by_cases c22 : x48_3 < (t173.length : Int)
           ·rw [if_pos c22] at H
            have c22b0 : decide (x48_3 < (t173.length : Int)) = true := decide_eq_true c22; clear c22; obtain ⟨bq23, hbq23⟩ : ∃ b_ : Bool, b_ = (rdOf false t173 x48_3) := ⟨_, rfl⟩; (replace H : (if bq23 = true then (if x48_3 < (l3.length : Int) then ((tree_node.f k3 x0_3 (rdOf ByteArray.empty l3 x48_3)).bind fun t179 => (tree_Climb.l0 k3 t179 l3 t173 (t173.length : Int) (wrap64 (x48_3 + 1)))) else (none)) else (if x48_3 < (l3.length : Int) then ((tree_node.f k3 (rdOf ByteArray.empty l3 x48_3) x0_3).bind fun t181 => (tree_Climb.l0 k3 t181 l3 t173 (t173.length : Int) (wrap64 (x48_3 + 1)))) else (none))) = some (r1, r2) := by rw [← hbq23] at H; exact H); have Nbq23 := zM hbq23; clear hbq23
            by_cases c24 : bq23 = true
            ·subst c24
             (have H1 : (if x48_3 < (l3.length : Int) then ((tree_node.f k3 x0_3 (rdOf ByteArray.empty l3 x48_3)).bind fun t179 => (tree_Climb.l0 k3 t179 l3 t173 (t173.length : Int) (wrap64 (x48_3 + 1)))) else (none)) = some (r1, r2) := by rw [if_pos rfl] at H; exact H); clear H; have H := H1; clear H1
             by_cases c25 : x48_3 < (l3.length : Int)
             ·rw [if_pos c25] at H
              have c25b0 : decide (x48_3 < (l3.length : Int)) = true := decide_eq_true c25; clear c25; replace H := zB H; obtain ⟨t179, A260, H⟩ := H; replace H : (tree_Climb.l0 k3 t179 l3 t173 (t173.length : Int) (wrap64 (x48_3 + 1))) = some (r1, r2) := H; have A26 := zM A260; clear A260; have H' := zM H; clear H; have p177 : 0 ≤ (x48_3 : Int) := zd; have q177 : x48_3 < (t173.length : Int) := zd; obtain ⟨ad177, e177, hx177_0⟩ := Kd.at_bool (Kd.R_reads' HO_46.out).2.2 x48_3 p177 q177; (try rw [← Nbq23.out] at hx177_0); cases e177; replace p177 := eq_true p177; replace q177 := eq_true q177; have p178 : 0 ≤ (x48_3 : Int) := zd; have q178 : x48_3 < (l3.length : Int) := zd; obtain ⟨ad178, e178, hx178_0⟩ := Kd.at_string HR3.out x48_3 p178 q178; cases e178; replace hx178_0 := zw HB hx178_0; replace p178 := eq_true p178; replace q178 := eq_true q178; (go_wp2_with (first | ((with_reducible refine gate_callee (f := 68) rfl ?_); refine goesL_ (some 59) rfl rfl Tryd.func68 (by kernel_rfl) rfl #[.string x0_3, .string (rdOf ByteArray.empty l3 x48_3)] rfl zm ?_; (with_reducible refine (tree_node.calls k3 x0_3 (rdOf ByteArray.empty l3 x48_3) t179 _ ?side1 A26.out).mono ?_); (case side1 => exact gw_step hG_ (zb HB.out)); rintro e w27 ⟨rfl, hb⟩; refine ⟨_, rfl, ?_⟩; replace HO_46 := zR HO_46 hb; replace HB := zS HB hb; (try clear hb)))); go_roundg k3
              case measure => have := HJ4.out; have := HJ11.out; have := HK3.out; omega
              case rel => exact ⟨(t179), (wrap64 (x48_3 + 1)), zz, zz, H', ⟨by have := HJ4.out; have := HJ11.out; have := HK3.out; omega⟩, ⟨zr HO_46.out⟩, ⟨zb HB.out⟩⟩
             ·rw [if_neg c25] at H
              exact absurd H (by simp)
            ·replace c24 := Bool.eq_false_iff.mpr c24
             subst c24; (have H1 : (if x48_3 < (l3.length : Int) then ((tree_node.f k3 (rdOf ByteArray.empty l3 x48_3) x0_3).bind fun t181 => (tree_Climb.l0 k3 t181 l3 t173 (t173.length : Int) (wrap64 (x48_3 + 1)))) else (none)) = some (r1, r2) := by rw [if_neg (show ¬ (false = true) by decide)] at H; exact H); clear H; have H := H1; clear H1
             by_cases c28 : x48_3 < (l3.length : Int)
             ·rw [if_pos c28] at H
              have c28b0 : decide (x48_3 < (l3.length : Int)) = true := decide_eq_true c28; clear c28; replace H := zB H; obtain ⟨t181, A290, H⟩ := H; replace H : (tree_Climb.l0 k3 t181 l3 t173 (t173.length : Int) (wrap64 (x48_3 + 1))) = some (r1, r2) := H; have A29 := zM A290; clear A290; have H' := zM H; clear H; have p177 : 0 ≤ (x48_3 : Int) := zd; have q177 : x48_3 < (t173.length : Int) := zd; obtain ⟨ad177, e177, hx177_0⟩ := Kd.at_bool (Kd.R_reads' HO_46.out).2.2 x48_3 p177 q177; (try rw [← Nbq23.out] at hx177_0); cases e177; replace p177 := eq_true p177; replace q177 := eq_true q177; have p180 : 0 ≤ (x48_3 : Int) := zd; have q180 : x48_3 < (l3.length : Int) := zd; obtain ⟨ad180, e180, hx180_0⟩ := Kd.at_string HR3.out x48_3 p180 q180; cases e180; replace hx180_0 := zw HB hx180_0; replace p180 := eq_true p180; replace q180 := eq_true q180; (go_wp2_with (first | ((with_reducible refine gate_callee (f := 68) rfl ?_); refine goesL_ (some 65) rfl rfl Tryd.func68 (by kernel_rfl) rfl #[.string (rdOf ByteArray.empty l3 x48_3), .string x0_3] rfl zm ?_; (with_reducible refine (tree_node.calls k3 (rdOf ByteArray.empty l3 x48_3) x0_3 t181 _ ?side1 A29.out).mono ?_); (case side1 => exact gw_step hG_ (zb HB.out)); rintro e w30 ⟨rfl, hb⟩; refine ⟨_, rfl, ?_⟩; replace HO_46 := zR HO_46 hb; replace HB := zS HB hb; (try clear hb)))); go_roundg k3
              case measure => have := HJ4.out; have := HJ11.out; have := HK3.out; omega
              case rel => exact ⟨(t181), (wrap64 (x48_3 + 1)), zz, zz, H', ⟨by have := HJ4.out; have := HJ11.out; have := HK3.out; omega⟩, ⟨zr HO_46.out⟩, ⟨zb HB.out⟩⟩
             ·rw [if_neg c28] at H
              exact absurd H (by simp)
           ·rw [if_neg c22] at H
            exact absurd H (by simp)
          ·rw [if_neg c21] at H
           exact absurd H (by simp)
         ·rw [if_neg c20] at H
          have c20b0 : decide (x48_3 < (t173.length : Int)) = false := decide_eq_false c20; clear c20; simp only [Option.some.injEq, Prod.mk.injEq] at H; obtain ⟨rfl, rfl⟩ := H; go_wp2; go_ret2; (exact ⟨by first | rfl | (simp [errW_none, errW_some] <;> rfl) | (simp [*, errW_none, errW_some] <;> rfl), zb HB.out⟩)
end Go.Proofs.YtpmefpdafkbphaaDoor.PB

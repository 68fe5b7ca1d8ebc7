import Derived.Test.YtpmefpdafkbphaaDoorZtPS
import Derived.Test.YtpmefpdafkbphaaDoorZtPR
namespace Go.Proofs.YtpmefpdafkbphaaDoor.PT
open HZ Go.RowKit HSha PS PR Go.Proofs.YtpmefpdafkbphaaDoorW.PrintWords Go.Proofs.YtpmefpdafkbphaaDoorW.PrintLast Go.Proofs.YtpmefpdafkbphaaDoorW.PrintMore
attribute [local go_sem] max2_int min2_int max_two min_two max_three min_three max_four min_four
set_option linter.unusedVariables false
set_option linter.unusedSimpArgs false
def errW : Option Int → Value
 | none => .nilIface
 | some c => .iface 0 (.int .i64 c)
theorem errW_none : errW none = .nilIface := rfl
theorem errW_some (c : Int) : errW (some c) = .iface 0 (.int .i64 c) := rfl
theorem info5 : (Tryd.prog.info? 5).map (fun i => (i.zero, i.size, i.bytes)) = some (some (.int .u8 0), 1, 1) := by kernel_rfl
end Go.Proofs.YtpmefpdafkbphaaDoor.PT
namespace Go.Proofs.YtpmefpdafkbphaaDoor.PT
open HZ Go.RowKit HSha PS PR Go.Proofs.YtpmefpdafkbphaaDoorW.PrintWords Go.Proofs.YtpmefpdafkbphaaDoorW.PrintLast Go.Proofs.YtpmefpdafkbphaaDoorW.PrintMore
attribute [local go_sem] max2_int min2_int max_two min_two max_three min_three max_four min_four
set_option linter.unusedVariables false
set_option linter.unusedSimpArgs false
def rubrickref03_Bytes.l0 : Nat → List Int → List Int → Int → Option (List Int)
 | 0, _, _, _ => none
 | k + 1, x1, x5, x6 => if x6 < (x1.length : Int) then (if 0 ≤ x6 then (if x5.length < 140737488355328 then (rubrickref03_Bytes.l0 k x1 (x5 ++ [rd x1 x6]) (wrap64 (x6 + 1))) else (none)) else (none)) else (some x5)
def rubrickref03_Bytes.f (k : Nat) (a0 : Int) (l1 : List Int) : Option (List Int) := rubrickref03_Bytes.l0 k l1 (([(a0) % 256] : List Int)) 0
theorem rubrickref03_Bytes.mono_l : ∀ k, (∀ y0 y1 y2, LeO (rubrickref03_Bytes.l0 k y0 y1 y2) (rubrickref03_Bytes.l0 (k + 1) y0 y1 y2))
 | 0 => fun _ _ _ r h => by simp [rubrickref03_Bytes.l0] at h
 | k + 1 => by
  have ih0 := rubrickref03_Bytes.mono_l k
  ·intro y0 y1 y2
   unfold rubrickref03_Bytes.l0
   repeat' first
   | (with_reducible exact ih0 _ _ _)
   | (with_reducible exact LeO.refl _)
   | (with_reducible exact LeO.none _)
   | (with_reducible refine LeO.ite ?_ ?_)
   | (with_reducible refine LeO.bind ?_ (fun _ => ?_))
theorem rubrickref03_Bytes.mono : ∀ a0 a1 k, LeO (rubrickref03_Bytes.f k a0 a1) (rubrickref03_Bytes.f (k + 1) a0 a1) := by
 intro a0 a1 k
 have ih0 := rubrickref03_Bytes.mono_l k
 unfold rubrickref03_Bytes.f
 repeat' first
   | (with_reducible exact ih0 _ _ _)
   | (with_reducible exact LeO.refl _)
   | (with_reducible exact LeO.none _)
   | (with_reducible refine LeO.ite ?_ ?_)
   | (with_reducible refine LeO.bind ?_ (fun _ => ?_))
set_option maxHeartbeats 8000000 in
set_option maxRecDepth 100000 in
theorem rubrickref03_Bytes.calls (k : Nat) (a0 : Int) (A1 : Option Addr) (c1 : Nat) (l1 : List Int) (r : List Int) (w : World) (hr1 : Kd.C (Kd.int .u8) w A1 l1.length l1) (hc1 : l1.length ≤ c1) (h : rubrickref03_Bytes.f k a0 l1 = some r) :
  Calls Tryd.prog 41 #[.int .i64 a0, .slice A1 l1.length c1] w fun e w' => ∃ v0_ : Value, e = .returned (v0_) ∧ Kd.R (Kd.int .u8) 5 w' w.heap.size (fun _ => True) v0_ r ∧ Below w.heap.size w w' := by
 have HR1 := zM hr1
 have HC1 := zM hc1
 clear hr1 hc1
 have HB := zM (Below.refl w.heap.size w)
 have H : (rubrickref03_Bytes.l0 k l1 (([(a0) % 256] : List Int)) 0) = some r := h
 clear h
 obtain ⟨y101, hy101⟩ : ∃ y_ : List Int, y_ = (([(a0) % 256] : List Int)) := ⟨_, rfl⟩
 replace H : (rubrickref03_Bytes.l0 k l1 y101 0) = some r := zh H hy101
 have Ny101 := zM hy101
 clear hy101
 have H' := zM H
 clear H
 go_enter Tryd.func41, Tryd.ntmps41
 go_wp2_with (first | ((with_reducible refine gate_dst (N := 9) rfl ?_); refine Kd.R_lit (Kd.int .u8) _ 5 ?hg (N := 9) ?hd (xs := ([(a0) % 256] : List Int)) (inner := [.int .u8 ((a0) % 256)]) (ok := fun _ => True) (okp := fun _ => True) ?hr ?hp (fun _ hk => hk) trivial (Below.refl _ _) (Nat.le_refl _) (by simp) ?_; (case hd => rfl); (case hg => rfl); (case hr => first | (go_simp; done) | (go_simp; rfl)); (case hp => exact (Reps.one (show Kd.M (Kd.int .u8) _ _ _ ((a0) % 256) [.int .u8 ((a0) % 256)] from rfl) (Reps.none _ _))); intro v102 w3 ho4 hb hg_ hnew_; clear hg_ hnew_; (first | rw [← Ny101.out] at ho4 | (simp only [Int.reduceToNat] at ho4; rw [← Ny101.out] at ho4)); have HO103 := zL ho4 HB; replace HB := zS HB hb; clear hb ho4))
 go_loopg [5, 6] k (fun kq v5 v6 w' => ∃ (x5_1 : List Int) (x6_1 : Int), v6 = .int .i64 x6_1 ∧ Aside0 (rubrickref03_Bytes.l0 kq l1 x5_1 x6_1 = some r) ∧ Aside0 (kq ≤ k) ∧ Aside0 (Kd.R (Kd.int .u8) 5 w' w.heap.size (fun _ => True) v5 x5_1) ∧ Aside0 (Below w.heap.size w w'))
 case atStart => exact ⟨(y101), (0), zz, H', ⟨Nat.le_refl _⟩, ⟨zr HO103.out⟩, ⟨zb HB.out⟩⟩
 case round =>
  clear H'; (try clear c1); (try clear p2); (try clear c4); obtain ⟨x5_1, x6_1, rfl, HA, HK1, HO_5, HB⟩ := hrel
  cases gk with
  | zero => exact absurd HA.out (by simp [rubrickref03_Bytes.l0])
  | succ k1 =>
   have H := HA.out; clear HA; simp only [rubrickref03_Bytes.l0] at H
   by_cases c5 : x6_1 < (l1.length : Int)
   ·rw [if_pos c5] at H
    have c5b0 : decide (x6_1 < (l1.length : Int)) = true := decide_eq_true c5; clear c5
    by_cases c6 : 0 ≤ x6_1
    ·rw [if_pos c6] at H
     have c6b0 : decide (0 ≤ x6_1) = true := decide_eq_true c6; clear c6
     by_cases c7 : x5_1.length < 140737488355328
     ·rw [if_pos c7] at H
      have LMc7 := zM c7; clear c7; obtain ⟨y105, hy105⟩ : ∃ y_ : List Int, y_ = (x5_1 ++ [rd l1 x6_1]) := ⟨_, rfl⟩; replace H : (rubrickref03_Bytes.l0 k1 l1 y105 (wrap64 (x6_1 + 1))) = some r := zh H hy105; have Ny105 := zM hy105; clear hy105; have H' := zM H; clear H; have p104 : 0 ≤ (x6_1 : Int) := zd; have q104 : x6_1 < (l1.length : Int) := zd; obtain ⟨ad104, e104, hx104_0⟩ := Kd.at_int HR1.out x6_1 p104 q104; cases e104; replace hx104_0 := zw HB hx104_0; replace p104 := eq_true p104; replace q104 := eq_true q104; (go_wp2_with (first | ((with_reducible refine gate_builtin (b := .append) (xs := #[.tmp 16, .tmp 21]) rfl ?_); at_builtin; refine Kd.R_append (Kd.int .u8) (w0 := w) w.heap.size rfl (.tmp 16) (.tmp 21) 41 5 (.int .u8 0) 1 rfl Tryd.underlying41 info5 rfl (by decide) (by omega) u5 x5_1 (rd l1 x6_1) [.int .u8 (rd l1 x6_1)] (fun _ => True) (fun _ => False) rfl rfl ?aP (fun _ hk => hk.elim) ?aF ?aO ?aB ?aS ?aL ?_; (case aP => exact rfl); (case aB => exact (zb HB.out)); (case aF => exact (fun _ _ => trivial)); (case aO => exact (zr HO_5.out)); (case aS => exact (below_size (zb HB.out))); (case aL => have := LMc7.out; omega); intro v106 w8 ho hb hg hat; rw [← Ny105.out] at ho; replace HB := zM (hb); have HO107 := zM (ho); clear HO_5 ho hb hg hat))); go_roundg k1
      case measure => have := HK1.out; omega
      case rel => exact ⟨(y105), (wrap64 (x6_1 + 1)), zz, H', ⟨by have := HK1.out; omega⟩, ⟨zr HO107.out⟩, ⟨zb HB.out⟩⟩
     ·rw [if_neg c7] at H
      exact absurd H (by simp)
    ·rw [if_neg c6] at H
     exact absurd H (by simp)
   ·rw [if_neg c5] at H
    have c5b0 : decide (x6_1 < (l1.length : Int)) = false := decide_eq_false c5; clear c5; obtain rfl := Option.some.inj H; go_wp2; go_ret; (exact ⟨_, by first | rfl | (simp [errW_none, errW_some] <;> rfl) | (simp [*, errW_none, errW_some] <;> rfl), zr HO_5.out, zb HB.out⟩)
def rubrickref03_Of.f (k : Nat) (a0 : Int) (l1 : List Int) : Option (ByteArray) := (rubrickref03_Bytes.f k a0 l1).bind fun t108 => ((rubrickref01_Sum.f k t108).bind fun t111 => (some t111))
theorem rubrickref03_Of.mono : ∀ a0 a1 k, LeO (rubrickref03_Of.f k a0 a1) (rubrickref03_Of.f (k + 1) a0 a1) := by
 intro a0 a1 k
 unfold rubrickref03_Of.f
 repeat' first
   | (with_reducible exact rubrickref01_Sum.mono _ _)
   | (with_reducible exact rubrickref03_Bytes.mono _ _ _)
   | (with_reducible exact LeO.refl _)
   | (with_reducible exact LeO.none _)
   | (with_reducible refine LeO.ite ?_ ?_)
   | (with_reducible refine LeO.bind ?_ (fun _ => ?_))
set_option maxHeartbeats 8000000 in
set_option maxRecDepth 100000 in
theorem rubrickref03_Of.calls (k : Nat) (a0 : Int) (A1 : Option Addr) (c1 : Nat) (l1 : List Int) (r : ByteArray) (w : World) (hr1 : Kd.C (Kd.int .u8) w A1 l1.length l1) (hc1 : l1.length ≤ c1) (h : rubrickref03_Of.f k a0 l1 = some r) :
  Calls Tryd.prog 69 #[.int .i64 a0, .slice A1 l1.length c1] w fun e w' => e = .returned (.string r) ∧ Below w.heap.size w w' := by
 have HR1 := zM hr1
 have HC1 := zM hc1
 clear hr1 hc1
 have HB := zM (Below.refl w.heap.size w)
 have H : ((rubrickref03_Bytes.f k a0 l1).bind fun t108 => ((rubrickref01_Sum.f k t108).bind fun t111 => (some t111))) = some r := h
 clear h
 replace H := zB H
 obtain ⟨t108, A30, H⟩ := H
 replace H : ((rubrickref01_Sum.f k t108).bind fun t111 => (some t111)) = some r := H
 have A3 := zM A30
 clear A30
 replace H := zB H
 obtain ⟨t111, A40, H⟩ := H
 replace H : (some t111) = some r := H
 have A4 := zM A40
 clear A40
 obtain rfl := Option.some.inj H
 go_enter Tryd.func69, Tryd.ntmps69
 go_wp2_with (first | ((with_reducible refine gate_callee (f := 41) rfl ?_); refine goesL_ (some 7) rfl rfl Tryd.func41 (by kernel_rfl) rfl #[.int .i64 a0, .slice A1 l1.length c1] rfl zm ?_; (with_reducible refine (rubrickref03_Bytes.calls k a0 _ _ l1 t108 _ ?side1 ?side2 A3.out).mono ?_); (case side1 => repeat (first | exact HR1.out | (with_reducible refine Kd.C_alloc ?_ _) | (with_reducible refine Kd.C_drewN ?_ _) | (with_reducible refine Kd.C_drew ?_))); (case side2 => exact HC1.out); rintro e w5 ⟨v109, rfl, ho0, hb⟩; refine ⟨_, rfl, ?_⟩; have HO110 := zL ho0 HB; replace HB := zS HB hb; (try clear hb); (try clear ho0); obtain ⟨Ao6, co6, eo6⟩ := Kd.R_slice HO110.out; subst eo6) | ((with_reducible refine gate_callee (f := 53) rfl ?_); refine goesL_ (some 8) rfl rfl Tryd.func53 (by kernel_rfl) rfl #[.slice Ao6 t108.length co6] rfl zm ?_; (with_reducible refine (rubrickref01_Sum.calls k _ _ t108 t111 _ ?side1 ?side2 A4.out).mono ?_); (case side1 => exact zc (Kd.R_reads' HO110.out).2.2); (case side2 => exact (Kd.R_reads' HO110.out).2.1); rintro e w7 ⟨rfl, hb⟩; refine ⟨_, rfl, ?_⟩; replace HO110 := zR HO110 hb; replace HB := zS HB hb; (try clear hb)))
 go_ret
 exact ⟨by first | rfl | (simp [errW_none, errW_some] <;> rfl) | (simp [*, errW_none, errW_some] <;> rfl), zb HB.out⟩
def rubrickref03_Leaf.f (k : Nat) (l0 : List Int) : Option (ByteArray) := (rubrickref03_Of.f k 0 l0).bind fun t112 => (some t112)
set_option maxHeartbeats 8000000 in
set_option maxRecDepth 100000 in
theorem rubrickref03_Leaf.calls (k : Nat) (A0 : Option Addr) (c0 : Nat) (l0 : List Int) (r : ByteArray) (w : World) (hr0 : Kd.C (Kd.int .u8) w A0 l0.length l0) (hc0 : l0.length ≤ c0) (h : rubrickref03_Leaf.f k l0 = some r) :
  Calls Tryd.prog 33 #[.slice A0 l0.length c0] w fun e w' => e = .returned (.string r) ∧ Below w.heap.size w w' := by
 have HR0 := zM hr0
 have HC0 := zM hc0
 clear hr0 hc0
 have HB := zM (Below.refl w.heap.size w)
 have H : ((rubrickref03_Of.f k 0 l0).bind fun t112 => (some t112)) = some r := h
 clear h
 replace H := zB H
 obtain ⟨t112, A20, H⟩ := H
 replace H : (some t112) = some r := H
 have A2 := zM A20
 clear A20
 obtain rfl := Option.some.inj H
 go_enter Tryd.func33, Tryd.ntmps33
 go_wp2_with (first | ((with_reducible refine gate_callee (f := 69) rfl ?_); refine goesL_ (some 4) rfl rfl Tryd.func69 (by kernel_rfl) rfl #[.int .i64 0, .slice A0 l0.length c0] rfl zm ?_; (with_reducible refine (rubrickref03_Of.calls k 0 _ _ l0 t112 _ ?side1 ?side2 A2.out).mono ?_); (case side1 => repeat (first | exact HR0.out | (with_reducible refine Kd.C_alloc ?_ _) | (with_reducible refine Kd.C_drewN ?_ _) | (with_reducible refine Kd.C_drew ?_))); (case side2 => exact HC0.out); rintro e w3 ⟨rfl, hb⟩; refine ⟨_, rfl, ?_⟩; replace HB := zS HB hb; (try clear hb)))
 go_ret
 exact ⟨by first | rfl | (simp [errW_none, errW_some] <;> rfl) | (simp [*, errW_none, errW_some] <;> rfl), zb HB.out⟩
def rubrickref03_Clash.f (k : Nat) (l0 : List Int) (l1 : List Int) : Option (Bool) := (rubrickref01_Sum.f k l0).bind fun t113 => ((rubrickref01_Sum.f k l1).bind fun t114 => (if t113.toList = t114.toList then (some ((strOfNums l0).toList != (strOfNums l1).toList)) else (some false)))
set_option maxHeartbeats 8000000 in
set_option maxRecDepth 100000 in
theorem rubrickref03_Clash.calls (k : Nat) (A0 : Option Addr) (c0 : Nat) (l0 : List Int) (A1 : Option Addr) (c1 : Nat) (l1 : List Int) (r : Bool) (w : World) (hr0 : Kd.C (Kd.int .u8) w A0 l0.length l0) (hc0 : l0.length ≤ c0) (hr1 : Kd.C (Kd.int .u8) w A1 l1.length l1) (hc1 : l1.length ≤ c1) (h : rubrickref03_Clash.f k l0 l1 = some r) :
  Calls Tryd.prog 72 #[.slice A0 l0.length c0, .slice A1 l1.length c1] w fun e w' => e = .returned (.bool r) ∧ Below w.heap.size w w' := by
 have HR0 := zM hr0
 have HC0 := zM hc0
 clear hr0 hc0
 have HR1 := zM hr1
 have HC1 := zM hc1
 clear hr1 hc1
 have HB := zM (Below.refl w.heap.size w)
 have H : ((rubrickref01_Sum.f k l0).bind fun t113 => ((rubrickref01_Sum.f k l1).bind fun t114 => (if t113.toList = t114.toList then (some ((strOfNums l0).toList != (strOfNums l1).toList)) else (some false)))) = some r := h
 clear h
 replace H := zB H
 obtain ⟨t113, A30, H⟩ := H
 replace H : ((rubrickref01_Sum.f k l1).bind fun t114 => (if t113.toList = t114.toList then (some ((strOfNums l0).toList != (strOfNums l1).toList)) else (some false))) = some r := H
 have A3 := zM A30
 clear A30
 replace H := zB H
 obtain ⟨t114, A40, H⟩ := H
 replace H : (if t113.toList = t114.toList then (some ((strOfNums l0).toList != (strOfNums l1).toList)) else (some false)) = some r := H
 have A4 := zM A40
 clear A40
 by_cases c5 : t113.toList = t114.toList
 ·rw [if_pos c5] at H
  have c5b0 : (t113.toList == t114.toList) = true := beq_iff_eq.mpr c5; have c5b1 : (t113.toList != t114.toList) = false := bne_eq_false_iff_eq.mpr c5; clear c5; obtain rfl := Option.some.inj H; go_enter Tryd.func72, Tryd.ntmps72; (go_wp2_with (first | ((with_reducible refine gate_callee (f := 53) rfl ?_); refine goesL_ (some 6) rfl rfl Tryd.func53 (by kernel_rfl) rfl #[.slice A0 l0.length c0] rfl zm ?_; (with_reducible refine (rubrickref01_Sum.calls k _ _ l0 t113 _ ?side1 ?side2 A3.out).mono ?_); (case side1 => repeat (first | exact HR0.out | (with_reducible refine Kd.C_alloc ?_ _) | (with_reducible refine Kd.C_drewN ?_ _) | (with_reducible refine Kd.C_drew ?_))); (case side2 => exact HC0.out); rintro e w6 ⟨rfl, hb⟩; refine ⟨_, rfl, ?_⟩; replace HB := zS HB hb; (try clear hb)) | ((with_reducible refine gate_callee (f := 53) rfl ?_); refine goesL_ (some 8) rfl rfl Tryd.func53 (by kernel_rfl) rfl #[.slice A1 l1.length c1] rfl zm ?_; (with_reducible refine (rubrickref01_Sum.calls k _ _ l1 t114 _ ?side1 ?side2 A4.out).mono ?_); (case side1 => exact zc (Kd.C_below HR1.out HB.out)); (case side2 => exact HC1.out); rintro e w7 ⟨rfl, hb⟩; refine ⟨_, rfl, ?_⟩; replace HB := zS HB hb; (try clear hb); have hcv8 := Kd.C_string (P := Tryd.prog) (A := A0) (c := c0) Tryd.underlying41 Tryd.underlying5 Tryd.underlying9 (Kd.C_below HR0.out HB.out); have hcv9 := Kd.C_string (P := Tryd.prog) (A := A1) (c := c1) Tryd.underlying41 Tryd.underlying5 Tryd.underlying9 (Kd.C_below HR1.out HB.out)))); go_ret; (exact ⟨by first | rfl | (simp [errW_none, errW_some] <;> rfl) | (simp [*, errW_none, errW_some] <;> rfl), zb HB.out⟩)
 ·rw [if_neg c5] at H
  have c5b0 : (t113.toList == t114.toList) = false := beq_eq_false_iff_ne.mpr c5; have c5b1 : (t113.toList != t114.toList) = true := bne_iff_ne.mpr c5; obtain rfl := Option.some.inj H; go_enter Tryd.func72, Tryd.ntmps72; (go_wp2_with (first | ((with_reducible refine gate_callee (f := 53) rfl ?_); refine goesL_ (some 6) rfl rfl Tryd.func53 (by kernel_rfl) rfl #[.slice A0 l0.length c0] rfl zm ?_; (with_reducible refine (rubrickref01_Sum.calls k _ _ l0 t113 _ ?side1 ?side2 A3.out).mono ?_); (case side1 => repeat (first | exact HR0.out | (with_reducible refine Kd.C_alloc ?_ _) | (with_reducible refine Kd.C_drewN ?_ _) | (with_reducible refine Kd.C_drew ?_))); (case side2 => exact HC0.out); rintro e w10 ⟨rfl, hb⟩; refine ⟨_, rfl, ?_⟩; replace HB := zS HB hb; (try clear hb)) | ((with_reducible refine gate_callee (f := 53) rfl ?_); refine goesL_ (some 8) rfl rfl Tryd.func53 (by kernel_rfl) rfl #[.slice A1 l1.length c1] rfl zm ?_; (with_reducible refine (rubrickref01_Sum.calls k _ _ l1 t114 _ ?side1 ?side2 A4.out).mono ?_); (case side1 => exact zc (Kd.C_below HR1.out HB.out)); (case side2 => exact HC1.out); rintro e w11 ⟨rfl, hb⟩; refine ⟨_, rfl, ?_⟩; replace HB := zS HB hb; (try clear hb)))); go_ret; (exact ⟨by first | rfl | (simp [errW_none, errW_some] <;> rfl) | (simp [*, errW_none, errW_some] <;> rfl), zb HB.out⟩)
def seal_Between.f (l0 : List Int) (l1 : List Int) : Option (List Int × List Int × Bool) := (some (([] : List Int) : List Int)).bind fun y116 => (if y116.length + l0.length < 140737488355328 then ((some (y116 ++ l0 : List Int)).bind fun y119 => ((some (([] : List Int) : List Int)).bind fun y122 => (if y122.length + l1.length < 140737488355328 then ((some (y122 ++ l1 : List Int)).bind fun y125 => ((seal_Is.f y119 y125).bind fun t129 => (if t129 = true then (some (y119, y125, true)) else (some (([] : List Int), ([] : List Int), false))))) else (none)))) else (none))
set_option maxHeartbeats 8000000 in
set_option maxRecDepth 100000 in
theorem seal_Between.calls (A0 : Option Addr) (c0 : Nat) (l0 : List Int) (A1 : Option Addr) (c1 : Nat) (l1 : List Int) (r1 : List Int) (r2 : List Int) (r3 : Bool) (w : World) (hG_ : Aside0 (GW w)) (hr0 : Kd.C (Kd.int .u8) w A0 l0.length l0) (hc0 : l0.length ≤ c0) (hr1 : Kd.C (Kd.int .u8) w A1 l1.length l1) (hc1 : l1.length ≤ c1) (h : seal_Between.f l0 l1 = some (r1, r2, r3)) :
  Calls Tryd.prog 87 #[.slice A0 l0.length c0, .slice A1 l1.length c1] w fun e w' => ∃ v0_ v1_ : Value, e = .returned (.tuple #[.agg #[v0_, v1_], .bool r3]) ∧ Kd.R (Kd.int .u8) 5 w' w.heap.size (fun k_ => some k_ ≠ (v1_ : Value).ownBlock) v0_ r1 ∧ Kd.R (Kd.int .u8) 5 w' w.heap.size (fun k_ => some k_ ≠ (v0_ : Value).ownBlock) v1_ r2 ∧ Below w.heap.size w w' := by
 have hu44 := Tryd.underlying44
 have HR0 := zM hr0
 have HC0 := zM hc0
 clear hr0 hc0
 have HR1 := zM hr1
 have HC1 := zM hc1
 clear hr1 hc1
 have HB := zM (Below.refl w.heap.size w)
 have H : ((some (([] : List Int) : List Int)).bind fun y116 => (if y116.length + l0.length < 140737488355328 then ((some (y116 ++ l0 : List Int)).bind fun y119 => ((some (([] : List Int) : List Int)).bind fun y122 => (if y122.length + l1.length < 140737488355328 then ((some (y122 ++ l1 : List Int)).bind fun y125 => ((seal_Is.f y119 y125).bind fun t129 => (if t129 = true then (some (y119, y125, true)) else (some (([] : List Int), ([] : List Int), false))))) else (none)))) else (none))) = some (r1, r2, r3) := h
 clear h
 obtain ⟨y116, hy116⟩ : ∃ y_ : List Int, y_ = (([] : List Int)) := ⟨_, rfl⟩
 replace H : (if y116.length + l0.length < 140737488355328 then ((some (y116 ++ l0 : List Int)).bind fun y119 => ((some (([] : List Int) : List Int)).bind fun y122 => (if y122.length + l1.length < 140737488355328 then ((some (y122 ++ l1 : List Int)).bind fun y125 => ((seal_Is.f y119 y125).bind fun t129 => (if t129 = true then (some (y119, y125, true)) else (some (([] : List Int), ([] : List Int), false))))) else (none)))) else (none)) = some (r1, r2, r3) := zh H hy116
 have Ny116 := zM hy116
 clear hy116
 by_cases c3 : y116.length + l0.length < 140737488355328
 ·rw [if_pos c3] at H
  have LMc3 := zM c3; clear c3; obtain ⟨y119, hy119⟩ : ∃ y_ : List Int, y_ = (y116 ++ l0) := ⟨_, rfl⟩; (replace H : ((some (([] : List Int) : List Int)).bind fun y122 => (if y122.length + l1.length < 140737488355328 then ((some (y122 ++ l1 : List Int)).bind fun y125 => ((seal_Is.f y119 y125).bind fun t129 => (if t129 = true then (some (y119, y125, true)) else (some (([] : List Int), ([] : List Int), false))))) else (none))) = some (r1, r2, r3) := zh H hy119); have Ny119 := zM hy119; clear hy119; obtain ⟨y122, hy122⟩ : ∃ y_ : List Int, y_ = (([] : List Int)) := ⟨_, rfl⟩; (replace H : (if y122.length + l1.length < 140737488355328 then ((some (y122 ++ l1 : List Int)).bind fun y125 => ((seal_Is.f y119 y125).bind fun t129 => (if t129 = true then (some (y119, y125, true)) else (some (([] : List Int), ([] : List Int), false))))) else (none)) = some (r1, r2, r3) := zh H hy122); have Ny122 := zM hy122; clear hy122
  by_cases c4 : y122.length + l1.length < 140737488355328
  ·rw [if_pos c4] at H
   have LMc4 := zM c4; clear c4; obtain ⟨y125, hy125⟩ : ∃ y_ : List Int, y_ = (y122 ++ l1) := ⟨_, rfl⟩; (replace H : ((seal_Is.f y119 y125).bind fun t129 => (if t129 = true then (some (y119, y125, true)) else (some (([] : List Int), ([] : List Int), false)))) = some (r1, r2, r3) := zh H hy125); have Ny125 := zM hy125; clear hy125; replace H := zB H; obtain ⟨t129, A50, H⟩ := H; (replace H : (if t129 = true then (some (y119, y125, true)) else (some (([] : List Int), ([] : List Int), false))) = some (r1, r2, r3) := H); have A5 := zM A50; clear A50
   by_cases c6 : t129 = true
   ·subst c6
    (have H1 : (some (y119, y125, true)) = some (r1, r2, r3) := by rw [if_pos rfl] at H; exact H); clear H; have H := H1; clear H1; simp only [Option.some.injEq, Prod.mk.injEq] at H; obtain ⟨rfl, rfl, rfl⟩ := H; go_enter Tryd.func87, Tryd.ntmps87; (go_wp2_with (first | ((with_reducible refine gate_dst (N := 4) rfl ?_); refine box_event ?hg (N := 4) ?hd (cs := #[.slice none 0 0, .slice none 0 0]) (t := 44) ?hr ?_; (case hd => rfl); (case hg => rfl); (case hr => first | (go_simp; done) | (go_simp; rfl)); intro gb115 hg w7 hbox hb; have BK115 := zM (hbox); have GW115 := zM ((by rw [hg]; exact (below_size (zb HB.out)) : w.heap.size ≤ gb115)); have GE115 := zM ((by rw [hg]; exact (below_size (zb HB.out)) : w.heap.size ≤ gb115)); replace HB := zS HB hb; clear hb hbox hg) | ((with_reducible refine gate_dst (N := 7) rfl ?_); refine Kd.R_lit (Kd.int .u8) _ 5 ?hg (N := 7) ?hd (xs := ([] : List Int)) (inner := []) (ok := fun _ => True) (okp := fun _ => True) ?hr ?hp (fun _ hk => hk) trivial (Below.refl _ _) (Nat.le_refl _) (by simp) ?_; (case hd => rfl); (case hg => rfl); (case hr => first | (go_simp; done) | (go_simp; rfl)); (case hp => exact (Reps.none _ _)); intro v117 w8 ho9 hb hg_ hnew_; clear hg_ hnew_; (first | rw [← Ny116.out] at ho9 | (simp only [Int.reduceToNat] at ho9; rw [← Ny116.out] at ho9)); have HO118 := zL1 ho9 HB GE115; replace BK115 := zK BK115 hb; replace HB := zS1 HB GE115 hb; clear hb ho9) | ((with_reducible refine gate_builtin (b := .append) (xs := #[.tmp 7, .tmp 8]) rfl ?_); at_builtin; refine Kd.R_append_rows (Kd.int .u8) (w0 := w) w.heap.size rfl (.tmp 7) (.tmp 8) 41 5 (.int .u8 0) 1 rfl Tryd.underlying41 info5 rfl (by decide) (by omega) v117 y116 l0 _ _ _ (fun _ => True) (fun _ => False) rfl rfl ?aO ?aR (fun _ _ h => h) (fun _ h => h.elim) ?aF ?aB ?aS ?aL ?_; (case aR => exact zc (Kd.C_below HR0.out HB.out)); (case aB => exact (zb1 HB.out GE115.out)); (case aF => exact (fun _ _ => trivial)); (case aO => exact (zr HO118.out)); (case aS => exact (below_size (zb1 HB.out GE115.out))); (case aL => have := LMc3.out; omega); intro v120 w10 ho hb hg hat; rw [← Ny119.out] at ho; replace BK115 := zM (blk_grown (g := gb115) (o := .cells #[.slice none 0 0, .slice none 0 0] 44 (0, 0)) (zk BK115.out) hg (Kd.R_ne HO118.out BK115.out (by decide))); replace HB := zM (hb); have HO121 := zM (ho); clear HO118 ho hb hg hat) | ((with_reducible refine gate_dst (N := 10) rfl ?_); refine Kd.R_lit (Kd.int .u8) _ 5 ?hg (N := 10) ?hd (xs := ([] : List Int)) (inner := []) (ok := fun _ => True) (okp := fun _ => True) ?hr ?hp (fun _ hk => hk) trivial (Below.refl _ _) (Nat.le_refl _) (by simp) ?_; (case hd => rfl); (case hg => rfl); (case hr => first | (go_simp; done) | (go_simp; rfl)); (case hp => exact (Reps.none _ _)); intro v123 w11 ho12 hb hg_ hnew_; clear hg_ hnew_; (first | rw [← Ny122.out] at ho12 | (simp only [Int.reduceToNat] at ho12; rw [← Ny122.out] at ho12)); have HO124 := zM (Kd.R_lower (Kd.R_new' ho12 (Kd.R_lt (zr HO121.out))) (below_size (zb1 HB.out GE115.out))); replace HO121 := zM (Kd.R_elder' (zr HO121.out) (Kd.R_base ho12) hb); replace BK115 := zK BK115 hb; replace HB := zS1 HB GE115 hb; clear hb ho12) | ((with_reducible refine gate_builtin (b := .append) (xs := #[.tmp 10, .tmp 11]) rfl ?_); at_builtin; refine Kd.R_append_rows (Kd.int .u8) (w0 := w) w.heap.size rfl (.tmp 10) (.tmp 11) 41 5 (.int .u8 0) 1 rfl Tryd.underlying41 info5 rfl (by decide) (by omega) v123 y122 l1 _ _ _ (fun k_ => some k_ ≠ (v120 : Value).ownBlock) (fun _ => False) rfl rfl ?aO ?aR (fun _ _ h => h) (fun _ h => h.elim) ?aF ?aB ?aS ?aL ?_; (case aR => exact zc (Kd.C_below HR1.out HB.out)); (case aB => exact (zb1 HB.out GE115.out)); (case aF => exact (fun k_ hk => Kd.fresh' (Kd.R_lt (zr HO121.out)) k_ hk)); (case aO => exact (by (with_reducible repeat (first | apply Kd.R_alloc | apply Kd.R_drewN | apply Kd.R_drew)); exact Kd.R_mono HO124.out (fun _ hk => hk.2))); (case aS => exact (below_size (zb1 HB.out GE115.out))); (case aL => have := LMc4.out; omega); intro v126 w13 ho hb hg hat; rw [← Ny125.out] at ho; replace BK115 := zM (blk_grown (g := gb115) (o := .cells #[.slice none 0 0, .slice none 0 0] 44 (0, 0)) (zk BK115.out) hg (Kd.R_ne HO124.out BK115.out (by decide))); replace HO121 := zM (Kd.R_after (ok := (fun _ => True)) (zr HO121.out) hg hat); replace HB := zM (hb); have HO127 := zM (ho); clear HO124 ho hb hg hat; obtain ⟨Ao14, co14, eo14⟩ := Kd.R_slice HO127.out; subst eo14; obtain ⟨Ao15, co15, eo15⟩ := Kd.R_slice HO121.out; subst eo15) | ((with_reducible refine gate_dst (N := 6) rfl ?_); refine box_event ?hg (N := 6) ?hd (cs := #[.slice none 0 0, .slice none 0 0]) (t := 44) ?hr ?_; (case hd => rfl); (case hg => rfl); (case hr => first | (go_simp; done) | (go_simp; rfl)); intro gb128 hg w16 hbox hb; replace HO121 := zR HO121 hb; replace HO127 := zR HO127 hb; have BK128 := zM (hbox); have GW128 := zM ((by rw [hg]; exact (below_size (zb1 HB.out GE115.out)) : w.heap.size ≤ gb128)); have GE128 := zM ((by rw [hg]; exact (below_size (zb1 HB.out GE115.out)) : w.heap.size ≤ gb128)); replace HB := zS1 HB GE115 hb; have NB115_128 := zM ((by rw [hg]; exact Nat.ne_of_lt (blk_lt (g := gb115) (o := .cells #[.slice none 0 0, .slice none 0 0] 44 (0, 0)) (zk BK115.out)) : gb115 ≠ gb128)); have NB128_115 := zM ((by rw [hg]; exact Nat.ne_of_gt (blk_lt (g := gb115) (o := .cells #[.slice none 0 0, .slice none 0 0] 44 (0, 0)) (zk BK115.out)) : gb128 ≠ gb115)); replace BK115 := zK BK115 hb; clear hb hbox hg; have hnb17 := NB128_115.out; have hnc17 := NB115_128.out; have hcz18_0 : w16.cell? ⟨gb128, 0, none⟩ = some (.slice none 0 0) := (blk_cell BK128.out 0).trans rfl; have hcz18_1 : w16.cell? ⟨gb128, 1, none⟩ = some (.slice none 0 0) := (blk_cell BK128.out 1).trans rfl; have hfz18_0 := blk_frozen BK128.out 0; have hfz18_1 := blk_frozen BK128.out 1) | ((with_reducible refine gate_callee (f := 35) rfl ?_); refine goesL_ (some 15) rfl rfl Tryd.func35 (by kernel_rfl) rfl #[.agg #[.slice Ao15 y119.length co15, .slice Ao14 y125.length co14]] rfl zm ?_; (with_reducible refine (seal_Is.calls _ _ y119 _ _ y125 true _ ?side5 ?side1 ?side2 ?side3 ?side4 A5.out).mono ?_); (case side1 => refine (Kd.R_reads' (e := 5) (base := w.heap.size) (ok := fun k_ => (True ∧ some k_ ≠ (.slice Ao14 y125.length co14 : Value).ownBlock)) (n := y119.length) (c := co15) ?_).2.2; exact (by (with_reducible repeat (first | apply Kd.R_alloc | apply Kd.R_drewN | apply Kd.R_drew)); exact (Kd.R_mono (zf2 HO121 BK128) (fun _ h_ => h_.1)))); (case side2 => exact (Kd.R_reads' HO121.out).2.1); (case side3 => refine (Kd.R_reads' (e := 5) (base := w.heap.size) (ok := fun k_ => some k_ ≠ (.slice Ao15 y119.length co15 : Value).ownBlock) (n := y125.length) (c := co14) ?_).2.2; exact (by (with_reducible repeat (first | apply Kd.R_alloc | apply Kd.R_drewN | apply Kd.R_drew)); exact (Kd.R_mono (zf2 HO127 BK128) (fun _ h_ => h_.1)))); (case side4 => exact (Kd.R_reads' HO127.out).2.1); (case side5 => exact gw_step hG_ (zb2 HB.out GE115.out GE128.out)); rintro e w19 ⟨rfl, hb⟩; refine ⟨_, rfl, ?_⟩; replace HO121 := zM (Kd.R_below (by (with_reducible repeat (first | apply Kd.R_alloc | apply Kd.R_drewN | apply Kd.R_drew)); exact (Kd.R_mono (zf2 HO121 BK128) (fun _ h_ => h_.1))) hb); replace HO127 := zM (Kd.R_below (by (with_reducible repeat (first | apply Kd.R_alloc | apply Kd.R_drewN | apply Kd.R_drew)); exact (Kd.R_mono (zf2 HO127 BK128) (fun _ h_ => h_.1))) hb); replace BK115 := zM (blk_below (g := gb115) (o := .cells #[.slice none 0 0, .slice none 0 0] 44 (0, 0)) (by (with_reducible repeat (first | refine blk_drewN ?_ _ | refine blk_drew ?_ | refine blk_alloc ?_ _)); refine blk_far ?_ NB115_128.out _; (with_reducible repeat (first | refine blk_drewN ?_ _ | refine blk_drew ?_ | refine blk_alloc ?_ _)); refine blk_far ?_ NB115_128.out _; (with_reducible repeat (first | refine blk_drewN ?_ _ | refine blk_drew ?_ | refine blk_alloc ?_ _)); exact BK115.out) hb); replace BK128 := zM (blk_below (g := gb128) (o := .cells #[.slice Ao15 y119.length co15, .slice Ao14 y125.length co14] 44 (0, 0)) (by (with_reducible repeat (first | refine blk_drewN ?_ _ | refine blk_drew ?_ | refine blk_alloc ?_ _)); refine blk_put (cs := #[.slice Ao15 y119.length co15, .slice none 0 0]) ?_ 1 _ rfl; (with_reducible repeat (first | refine blk_drewN ?_ _ | refine blk_drew ?_ | refine blk_alloc ?_ _)); refine blk_put (cs := #[.slice none 0 0, .slice none 0 0]) ?_ 0 _ rfl; (with_reducible repeat (first | refine blk_drewN ?_ _ | refine blk_drew ?_ | refine blk_alloc ?_ _)); exact BK128.out) hb); replace HB := zS2 HB GE115 GE128 hb; (try clear hb); have hcz20_0 : w19.cell? ⟨gb128, 0, none⟩ = some (.slice Ao15 y119.length co15) := (blk_cell BK128.out 0).trans rfl; have hcz20_1 : w19.cell? ⟨gb128, 1, none⟩ = some (.slice Ao14 y125.length co14) := (blk_cell BK128.out 1).trans rfl; have hfz20_0 := blk_frozen BK128.out 0; have hfz20_1 := blk_frozen BK128.out 1; have hcz21_0 : w19.cell? ⟨gb115, 0, none⟩ = some (.slice none 0 0) := (blk_cell BK115.out 0).trans rfl; have hcz21_1 : w19.cell? ⟨gb115, 1, none⟩ = some (.slice none 0 0) := (blk_cell BK115.out 1).trans rfl; have hfz21_0 := blk_frozen BK115.out 0; have hfz21_1 := blk_frozen BK115.out 1))); (refine bodyPost_ret (results_ct rfl _ _ gb115 44 #[.slice Ao15 y119.length co15, .slice Ao14 y125.length co14] (0, 0) _ rfl (by (with_reducible repeat (first | refine blk_drewN ?_ _ | refine blk_drew ?_ | refine blk_alloc ?_ _)); refine blk_put (cs := #[.slice Ao15 y119.length co15, .slice none 0 0]) ?_ 1 _ rfl; (with_reducible repeat (first | refine blk_drewN ?_ _ | refine blk_drew ?_ | refine blk_alloc ?_ _)); refine blk_put (cs := #[.slice none 0 0, .slice none 0 0]) ?_ 0 _ rfl; (with_reducible repeat (first | refine blk_drewN ?_ _ | refine blk_drew ?_ | refine blk_alloc ?_ _)); exact BK115.out) Tryd.underlying44 rfl (by kernel_rfl)) rfl ?_); (exact ⟨_, _, by first | rfl | (simp [errW_none, errW_some] <;> rfl) | (simp [*, errW_none, errW_some] <;> rfl), by (with_reducible repeat (first | apply Kd.R_alloc | apply Kd.R_drewN | apply Kd.R_drew)); exact Kd.R_mono (zf2 HO121 BK115) (fun _ hk => hk.1.2), by (with_reducible repeat (first | apply Kd.R_alloc | apply Kd.R_drewN | apply Kd.R_drew)); exact Kd.R_mono (zf2 HO127 BK115) (fun _ hk => hk.1), zb2 HB.out GE115.out GE128.out⟩)
   ·replace c6 := Bool.eq_false_iff.mpr c6
    subst c6; (have H1 : (some (([] : List Int), ([] : List Int), false)) = some (r1, r2, r3) := by rw [if_neg (show ¬ (false = true) by decide)] at H; exact H); clear H; have H := H1; clear H1; simp only [Option.some.injEq, Prod.mk.injEq] at H; obtain ⟨rfl, rfl, rfl⟩ := H; go_enter Tryd.func87, Tryd.ntmps87; (go_wp2_with (first | ((with_reducible refine gate_dst (N := 4) rfl ?_); refine box_event ?hg (N := 4) ?hd (cs := #[.slice none 0 0, .slice none 0 0]) (t := 44) ?hr ?_; (case hd => rfl); (case hg => rfl); (case hr => first | (go_simp; done) | (go_simp; rfl)); intro gb115 hg w22 hbox hb; have BK115 := zM (hbox); have GW115 := zM ((by rw [hg]; exact (below_size (zb HB.out)) : w.heap.size ≤ gb115)); have GE115 := zM ((by rw [hg]; exact (below_size (zb HB.out)) : w.heap.size ≤ gb115)); replace HB := zS HB hb; clear hb hbox hg) | ((with_reducible refine gate_dst (N := 7) rfl ?_); refine Kd.R_lit (Kd.int .u8) _ 5 ?hg (N := 7) ?hd (xs := ([] : List Int)) (inner := []) (ok := fun _ => True) (okp := fun _ => True) ?hr ?hp (fun _ hk => hk) trivial (Below.refl _ _) (Nat.le_refl _) (by simp) ?_; (case hd => rfl); (case hg => rfl); (case hr => first | (go_simp; done) | (go_simp; rfl)); (case hp => exact (Reps.none _ _)); intro v117 w23 ho24 hb hg_ hnew_; clear hg_ hnew_; (first | rw [← Ny116.out] at ho24 | (simp only [Int.reduceToNat] at ho24; rw [← Ny116.out] at ho24)); have HO118 := zL1 ho24 HB GE115; replace BK115 := zK BK115 hb; replace HB := zS1 HB GE115 hb; clear hb ho24) | ((with_reducible refine gate_builtin (b := .append) (xs := #[.tmp 7, .tmp 8]) rfl ?_); at_builtin; refine Kd.R_append_rows (Kd.int .u8) (w0 := w) w.heap.size rfl (.tmp 7) (.tmp 8) 41 5 (.int .u8 0) 1 rfl Tryd.underlying41 info5 rfl (by decide) (by omega) v117 y116 l0 _ _ _ (fun _ => True) (fun _ => False) rfl rfl ?aO ?aR (fun _ _ h => h) (fun _ h => h.elim) ?aF ?aB ?aS ?aL ?_; (case aR => exact zc (Kd.C_below HR0.out HB.out)); (case aB => exact (zb1 HB.out GE115.out)); (case aF => exact (fun _ _ => trivial)); (case aO => exact (zr HO118.out)); (case aS => exact (below_size (zb1 HB.out GE115.out))); (case aL => have := LMc3.out; omega); intro v120 w25 ho hb hg hat; rw [← Ny119.out] at ho; replace BK115 := zM (blk_grown (g := gb115) (o := .cells #[.slice none 0 0, .slice none 0 0] 44 (0, 0)) (zk BK115.out) hg (Kd.R_ne HO118.out BK115.out (by decide))); replace HB := zM (hb); have HO121 := zM (ho); clear HO118 ho hb hg hat) | ((with_reducible refine gate_dst (N := 10) rfl ?_); refine Kd.R_lit (Kd.int .u8) _ 5 ?hg (N := 10) ?hd (xs := ([] : List Int)) (inner := []) (ok := fun _ => True) (okp := fun _ => True) ?hr ?hp (fun _ hk => hk) trivial (Below.refl _ _) (Nat.le_refl _) (by simp) ?_; (case hd => rfl); (case hg => rfl); (case hr => first | (go_simp; done) | (go_simp; rfl)); (case hp => exact (Reps.none _ _)); intro v123 w26 ho27 hb hg_ hnew_; clear hg_ hnew_; (first | rw [← Ny122.out] at ho27 | (simp only [Int.reduceToNat] at ho27; rw [← Ny122.out] at ho27)); have HO124 := zM (Kd.R_lower (Kd.R_new' ho27 (Kd.R_lt (zr HO121.out))) (below_size (zb1 HB.out GE115.out))); replace HO121 := zM (Kd.R_elder' (zr HO121.out) (Kd.R_base ho27) hb); replace BK115 := zK BK115 hb; replace HB := zS1 HB GE115 hb; clear hb ho27) | ((with_reducible refine gate_builtin (b := .append) (xs := #[.tmp 10, .tmp 11]) rfl ?_); at_builtin; refine Kd.R_append_rows (Kd.int .u8) (w0 := w) w.heap.size rfl (.tmp 10) (.tmp 11) 41 5 (.int .u8 0) 1 rfl Tryd.underlying41 info5 rfl (by decide) (by omega) v123 y122 l1 _ _ _ (fun k_ => some k_ ≠ (v120 : Value).ownBlock) (fun _ => False) rfl rfl ?aO ?aR (fun _ _ h => h) (fun _ h => h.elim) ?aF ?aB ?aS ?aL ?_; (case aR => exact zc (Kd.C_below HR1.out HB.out)); (case aB => exact (zb1 HB.out GE115.out)); (case aF => exact (fun k_ hk => Kd.fresh' (Kd.R_lt (zr HO121.out)) k_ hk)); (case aO => exact (by (with_reducible repeat (first | apply Kd.R_alloc | apply Kd.R_drewN | apply Kd.R_drew)); exact Kd.R_mono HO124.out (fun _ hk => hk.2))); (case aS => exact (below_size (zb1 HB.out GE115.out))); (case aL => have := LMc4.out; omega); intro v126 w28 ho hb hg hat; rw [← Ny125.out] at ho; replace BK115 := zM (blk_grown (g := gb115) (o := .cells #[.slice none 0 0, .slice none 0 0] 44 (0, 0)) (zk BK115.out) hg (Kd.R_ne HO124.out BK115.out (by decide))); replace HO121 := zM (Kd.R_after (ok := (fun _ => True)) (zr HO121.out) hg hat); replace HB := zM (hb); have HO127 := zM (ho); clear HO124 ho hb hg hat; obtain ⟨Ao29, co29, eo29⟩ := Kd.R_slice HO127.out; subst eo29; obtain ⟨Ao30, co30, eo30⟩ := Kd.R_slice HO121.out; subst eo30) | ((with_reducible refine gate_dst (N := 6) rfl ?_); refine box_event ?hg (N := 6) ?hd (cs := #[.slice none 0 0, .slice none 0 0]) (t := 44) ?hr ?_; (case hd => rfl); (case hg => rfl); (case hr => first | (go_simp; done) | (go_simp; rfl)); intro gb128 hg w31 hbox hb; replace HO121 := zR HO121 hb; replace HO127 := zR HO127 hb; have BK128 := zM (hbox); have GW128 := zM ((by rw [hg]; exact (below_size (zb1 HB.out GE115.out)) : w.heap.size ≤ gb128)); have GE128 := zM ((by rw [hg]; exact (below_size (zb1 HB.out GE115.out)) : w.heap.size ≤ gb128)); replace HB := zS1 HB GE115 hb; have NB115_128 := zM ((by rw [hg]; exact Nat.ne_of_lt (blk_lt (g := gb115) (o := .cells #[.slice none 0 0, .slice none 0 0] 44 (0, 0)) (zk BK115.out)) : gb115 ≠ gb128)); have NB128_115 := zM ((by rw [hg]; exact Nat.ne_of_gt (blk_lt (g := gb115) (o := .cells #[.slice none 0 0, .slice none 0 0] 44 (0, 0)) (zk BK115.out)) : gb128 ≠ gb115)); replace BK115 := zK BK115 hb; clear hb hbox hg; have hnb32 := NB128_115.out; have hnc32 := NB115_128.out; have hcz33_0 : w31.cell? ⟨gb128, 0, none⟩ = some (.slice none 0 0) := (blk_cell BK128.out 0).trans rfl; have hcz33_1 : w31.cell? ⟨gb128, 1, none⟩ = some (.slice none 0 0) := (blk_cell BK128.out 1).trans rfl; have hfz33_0 := blk_frozen BK128.out 0; have hfz33_1 := blk_frozen BK128.out 1) | ((with_reducible refine gate_callee (f := 35) rfl ?_); refine goesL_ (some 15) rfl rfl Tryd.func35 (by kernel_rfl) rfl #[.agg #[.slice Ao30 y119.length co30, .slice Ao29 y125.length co29]] rfl zm ?_; (with_reducible refine (seal_Is.calls _ _ y119 _ _ y125 false _ ?side5 ?side1 ?side2 ?side3 ?side4 A5.out).mono ?_); (case side1 => refine (Kd.R_reads' (e := 5) (base := w.heap.size) (ok := fun k_ => (True ∧ some k_ ≠ (.slice Ao29 y125.length co29 : Value).ownBlock)) (n := y119.length) (c := co30) ?_).2.2; exact (by (with_reducible repeat (first | apply Kd.R_alloc | apply Kd.R_drewN | apply Kd.R_drew)); exact (Kd.R_mono (zf2 HO121 BK128) (fun _ h_ => h_.1)))); (case side2 => exact (Kd.R_reads' HO121.out).2.1); (case side3 => refine (Kd.R_reads' (e := 5) (base := w.heap.size) (ok := fun k_ => some k_ ≠ (.slice Ao30 y119.length co30 : Value).ownBlock) (n := y125.length) (c := co29) ?_).2.2; exact (by (with_reducible repeat (first | apply Kd.R_alloc | apply Kd.R_drewN | apply Kd.R_drew)); exact (Kd.R_mono (zf2 HO127 BK128) (fun _ h_ => h_.1)))); (case side4 => exact (Kd.R_reads' HO127.out).2.1); (case side5 => exact gw_step hG_ (zb2 HB.out GE115.out GE128.out)); rintro e w34 ⟨rfl, hb⟩; refine ⟨_, rfl, ?_⟩; replace HO121 := zM (Kd.R_below (by (with_reducible repeat (first | apply Kd.R_alloc | apply Kd.R_drewN | apply Kd.R_drew)); exact (Kd.R_mono (zf2 HO121 BK128) (fun _ h_ => h_.1))) hb); replace HO127 := zM (Kd.R_below (by (with_reducible repeat (first | apply Kd.R_alloc | apply Kd.R_drewN | apply Kd.R_drew)); exact (Kd.R_mono (zf2 HO127 BK128) (fun _ h_ => h_.1))) hb); replace BK115 := zM (blk_below (g := gb115) (o := .cells #[.slice none 0 0, .slice none 0 0] 44 (0, 0)) (by (with_reducible repeat (first | refine blk_drewN ?_ _ | refine blk_drew ?_ | refine blk_alloc ?_ _)); refine blk_far ?_ NB115_128.out _; (with_reducible repeat (first | refine blk_drewN ?_ _ | refine blk_drew ?_ | refine blk_alloc ?_ _)); refine blk_far ?_ NB115_128.out _; (with_reducible repeat (first | refine blk_drewN ?_ _ | refine blk_drew ?_ | refine blk_alloc ?_ _)); exact BK115.out) hb); replace BK128 := zM (blk_below (g := gb128) (o := .cells #[.slice Ao30 y119.length co30, .slice Ao29 y125.length co29] 44 (0, 0)) (by (with_reducible repeat (first | refine blk_drewN ?_ _ | refine blk_drew ?_ | refine blk_alloc ?_ _)); refine blk_put (cs := #[.slice Ao30 y119.length co30, .slice none 0 0]) ?_ 1 _ rfl; (with_reducible repeat (first | refine blk_drewN ?_ _ | refine blk_drew ?_ | refine blk_alloc ?_ _)); refine blk_put (cs := #[.slice none 0 0, .slice none 0 0]) ?_ 0 _ rfl; (with_reducible repeat (first | refine blk_drewN ?_ _ | refine blk_drew ?_ | refine blk_alloc ?_ _)); exact BK128.out) hb); replace HB := zS2 HB GE115 GE128 hb; (try clear hb); have hcz35_0 : w34.cell? ⟨gb115, 0, none⟩ = some (.slice none 0 0) := (blk_cell BK115.out 0).trans rfl; have hcz35_1 : w34.cell? ⟨gb115, 1, none⟩ = some (.slice none 0 0) := (blk_cell BK115.out 1).trans rfl; have hfz35_0 := blk_frozen BK115.out 0; have hfz35_1 := blk_frozen BK115.out 1))); (refine bodyPost_ret (results_ct rfl _ _ gb115 44 #[.slice none 0 0, .slice none 0 0] (0, 0) _ rfl (by (with_reducible repeat (first | refine blk_drewN ?_ _ | refine blk_drew ?_ | refine blk_alloc ?_ _)); refine blk_put (cs := #[.slice none 0 0, .slice none 0 0]) ?_ 1 _ rfl; (with_reducible repeat (first | refine blk_drewN ?_ _ | refine blk_drew ?_ | refine blk_alloc ?_ _)); refine blk_put (cs := #[.slice none 0 0, .slice none 0 0]) ?_ 0 _ rfl; (with_reducible repeat (first | refine blk_drewN ?_ _ | refine blk_drew ?_ | refine blk_alloc ?_ _)); exact BK115.out) Tryd.underlying44 rfl (by kernel_rfl)) rfl ?_); (exact ⟨_, _, by first | rfl | (simp [errW_none, errW_some] <;> rfl) | (simp [*, errW_none, errW_some] <;> rfl), by first | exact Kd.R_nil _ _ _ _ _ | exact Kd.N_nil _ _ _ _ _ | exact Kd.V_nil _ _ _ _ _ | exact Kd.Q_nil _ _ _ _ _ | exact Kd.S_nil _ _ _ _ _, by first | exact Kd.R_nil _ _ _ _ _ | exact Kd.N_nil _ _ _ _ _ | exact Kd.V_nil _ _ _ _ _ | exact Kd.Q_nil _ _ _ _ _ | exact Kd.S_nil _ _ _ _ _, zb2 HB.out GE115.out GE128.out⟩)
  ·rw [if_neg c4] at H
   exact absurd H (by simp)
 ·rw [if_neg c3] at H
  exact absurd H (by simp)
end Go.Proofs.YtpmefpdafkbphaaDoor.PT

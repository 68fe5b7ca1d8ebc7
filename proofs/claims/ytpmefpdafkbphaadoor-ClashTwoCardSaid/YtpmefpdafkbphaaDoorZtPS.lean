import Derived.Test.YtpmefpdafkbphaaDoorZtHZ
import Derived.Test.YtpmefpdafkbphaaDoorZtHBulk
import Derived.WalkMore
import Derived.Test.YtpmefpdafkbphaaDoorZtHShaD
import Derived.Laws.StructEq
import Derived.Test.YtpmefpdafkbphaaDoorZtWInv
import Derived.Test.YtpmefpdafkbphaaDoorZtWGuard
namespace Go.Proofs.YtpmefpdafkbphaaDoor.PS
open HZ Go.RowKit Go.Proofs.YtpmefpdafkbphaaDoor HSha Go.Proofs.YtpmefpdafkbphaaDoorW.PrintWords Go.Proofs.YtpmefpdafkbphaaDoorW.PrintLast Go.Proofs.YtpmefpdafkbphaaDoorW.PrintMore
attribute [local go_sem] max2_int min2_int max_two min_two max_three min_three max_four min_four
set_option linter.unusedVariables false
set_option linter.unusedSimpArgs false
def errW : Option Int → Value
 | none => .nilIface
 | some c => .iface 0 (.int .i64 c)
theorem errW_none : errW none = .nilIface := rfl
theorem errW_some (c : Int) : errW (some c) = .iface 0 (.int .i64 c) := rfl
theorem info5 : (Tryd.prog.info? 5).map (fun i => (i.zero, i.size, i.bytes)) = some (some (.int .u8 0), 1, 1) := by kernel_rfl
theorem info9 : (Tryd.prog.info? 9).map (fun i => (i.zero, i.size, i.bytes)) = some (some (.string ⟨#[]⟩), 1, 16) := by kernel_rfl
end Go.Proofs.YtpmefpdafkbphaaDoor.PS
namespace Go.Proofs.YtpmefpdafkbphaaDoor.PS
open HZ Go.RowKit Go.Proofs.YtpmefpdafkbphaaDoor HSha Go.Proofs.YtpmefpdafkbphaaDoorW.PrintWords Go.Proofs.YtpmefpdafkbphaaDoorW.PrintLast Go.Proofs.YtpmefpdafkbphaaDoorW.PrintMore
attribute [local go_sem] max2_int min2_int max_two min_two max_three min_three max_four min_four
set_option linter.unusedVariables false
set_option linter.unusedSimpArgs false
def seal_put.l0 : Nat → List Int → List ByteArray → Int → Int → Option (List Int)
 | 0, _, _, _, _ => none
 | k + 1, x5, x10, x11, x12 => if x12 < x11 then (if 0 ≤ x12 then (if x12 < (x10.length : Int) then (if x5.length + (rdOf ByteArray.empty x10 x12).size < 140737488355328 then (seal_put.l0 k (x5 ++ bytesOf (rdOf ByteArray.empty x10 x12)) x10 x11 (wrap64 (x12 + 1))) else (none)) else (none)) else (none)) else (some x5)
def seal_put.f (k : Nat) (a0 : Int) (l1 : List ByteArray) : Option (List Int) := seal_put.l0 k (([a0] : List Int)) l1 (l1.length : Int) 0
theorem seal_put.mono_l : ∀ k, (∀ y0 y1 y2 y3, LeO (seal_put.l0 k y0 y1 y2 y3) (seal_put.l0 (k + 1) y0 y1 y2 y3))
 | 0 => fun _ _ _ _ r h => by simp [seal_put.l0] at h
 | k + 1 => by
  have ih0 := seal_put.mono_l k
  ·intro y0 y1 y2 y3
   unfold seal_put.l0
   repeat' first
   | (with_reducible exact ih0 _ _ _ _)
   | (with_reducible exact LeO.refl _)
   | (with_reducible exact LeO.none _)
   | (with_reducible refine LeO.ite ?_ ?_)
   | (with_reducible refine LeO.bind ?_ (fun _ => ?_))
theorem seal_put.mono : ∀ a0 a1 k, LeO (seal_put.f k a0 a1) (seal_put.f (k + 1) a0 a1) := by
 intro a0 a1 k
 have ih0 := seal_put.mono_l k
 unfold seal_put.f
 repeat' first
   | (with_reducible exact ih0 _ _ _ _)
   | (with_reducible exact LeO.refl _)
   | (with_reducible exact LeO.none _)
   | (with_reducible refine LeO.ite ?_ ?_)
   | (with_reducible refine LeO.bind ?_ (fun _ => ?_))
set_option maxHeartbeats 8000000 in
set_option maxRecDepth 100000 in
theorem seal_put.calls (k : Nat) (a0 : Int) (A1 : Option Addr) (c1 : Nat) (l1 : List ByteArray) (r : List Int) (w : World) (hr1 : Kd.C Kd.string w A1 l1.length l1) (hc1 : l1.length ≤ c1) (h : seal_put.f k a0 l1 = some r) :
  Calls Tryd.prog 86 #[.int .u8 a0, .slice A1 l1.length c1] w fun e w' => ∃ v0_ : Value, e = .returned (v0_) ∧ Kd.R (Kd.int .u8) 5 w' w.heap.size (fun _ => True) v0_ r ∧ Below w.heap.size w w' := by
 have HR1 := zM hr1
 have HC1 := zM hc1
 clear hr1 hc1
 have HB := zM (Below.refl w.heap.size w)
 have H : (seal_put.l0 k (([a0] : List Int)) l1 (l1.length : Int) 0) = some r := h
 clear h
 obtain ⟨y101, hy101⟩ : ∃ y_ : List Int, y_ = (([a0] : List Int)) := ⟨_, rfl⟩
 replace H : (seal_put.l0 k y101 l1 (l1.length : Int) 0) = some r := zh H hy101
 have Ny101 := zM hy101
 clear hy101
 have H' := zM H
 clear H
 go_enter Tryd.func86, Tryd.ntmps86
 go_wp2_with (first | ((with_reducible refine gate_dst (N := 9) rfl ?_); refine Kd.R_lit (Kd.int .u8) _ 5 ?hg (N := 9) ?hd (xs := ([a0] : List Int)) (inner := [.int .u8 a0]) (ok := fun _ => True) (okp := fun _ => True) ?hr ?hp (fun _ hk => hk) trivial (Below.refl _ _) (Nat.le_refl _) (by simp) ?_; (case hd => rfl); (case hg => rfl); (case hr => first | (go_simp; done) | (go_simp; rfl)); (case hp => exact (Reps.one (show Kd.M (Kd.int .u8) _ _ _ a0 [.int .u8 a0] from rfl) (Reps.none _ _))); intro v102 w3 ho4 hb hg_ hnew_; clear hg_ hnew_; (first | rw [← Ny101.out] at ho4 | (simp only [Int.reduceToNat] at ho4; rw [← Ny101.out] at ho4)); have HO103 := zL ho4 HB; replace HB := zS HB hb; clear hb ho4))
 go_loopg [5, 12] k (fun kq v5 v12 w' => ∃ (x5_1 : List Int) (x12_1 : Int), v12 = .int .i64 x12_1 ∧ Aside0 (seal_put.l0 kq x5_1 l1 (l1.length : Int) x12_1 = some r) ∧ Aside0 (kq ≤ k) ∧ Aside0 (Kd.R (Kd.int .u8) 5 w' w.heap.size (fun _ => True) v5 x5_1) ∧ Aside0 (Below w.heap.size w w'))
 case atStart => exact ⟨(y101), (0), zz, H', ⟨Nat.le_refl _⟩, ⟨zr HO103.out⟩, ⟨zb HB.out⟩⟩
 case round =>
  clear H'; (try clear c1); (try clear p2); obtain ⟨x5_1, x12_1, rfl, HA, HK1, HO_5, HB⟩ := hrel
  cases gk with
  | zero => exact absurd HA.out (by simp [seal_put.l0])
  | succ k1 =>
   have H := HA.out; clear HA; simp only [seal_put.l0] at H
   by_cases c5 : x12_1 < (l1.length : Int)
   ·rw [if_pos c5] at H
    have c5b0 : decide (x12_1 < (l1.length : Int)) = true := decide_eq_true c5; clear c5
    by_cases c6 : 0 ≤ x12_1
    ·rw [if_pos c6] at H
     have c6b0 : decide (0 ≤ x12_1) = true := decide_eq_true c6; clear c6
     by_cases c7 : x12_1 < (l1.length : Int)
     ·rw [if_pos c7] at H
      have c7b0 : decide (x12_1 < (l1.length : Int)) = true := decide_eq_true c7; clear c7
      by_cases c8 : x5_1.length + (rdOf ByteArray.empty l1 x12_1).size < 140737488355328
      ·rw [if_pos c8] at H
       have LMc8 := zM c8; clear c8; obtain ⟨y105, hy105⟩ : ∃ y_ : List Int, y_ = (x5_1 ++ bytesOf (rdOf ByteArray.empty l1 x12_1)) := ⟨_, rfl⟩; replace H : (seal_put.l0 k1 y105 l1 (l1.length : Int) (wrap64 (x12_1 + 1))) = some r := zh H hy105; have Ny105 := zM hy105; clear hy105; have H' := zM H; clear H; have p104 : 0 ≤ (x12_1 : Int) := zd; have q104 : x12_1 < (l1.length : Int) := zd; obtain ⟨ad104, e104, hx104_0⟩ := Kd.at_string HR1.out x12_1 p104 q104; cases e104; replace hx104_0 := zw HB hx104_0; replace p104 := eq_true p104; replace q104 := eq_true q104; (go_wp2_with (first | (at_builtin; refine print_append_str (w0 := w) w.heap.size rfl (.tmp 16) _ 41 9 5 rfl Tryd.underlying41 Tryd.underlying9 info5 u5 x5_1 (rdOf ByteArray.empty l1 x12_1) rfl rfl ?aO ?aB ?aS ?aL ?_; (case aB => exact (zb HB.out)); (case aO => exact (Kd.own_of_R (zr HO_5.out))); (case aS => exact (below_size (zb HB.out))); (case aL => have := LMc8.out; omega); intro v106 w9 ho0 hb hg; have ho := Kd.R_of_own (h1 := fun _ => rfl) (ok := fun _ => True) ho0 (fun _ _ => trivial); clear ho0; have hat := True.intro; rw [← Ny105.out] at ho; change Kd.R (Kd.int .u8) 5 w9 w.heap.size (fun _ => True) v106 y105 at ho; replace HB := zM (hb); have HO107 := zM (ho); clear HO_5 ho hb hg hat))); go_roundg k1
       case measure => have := HK1.out; omega
       case rel => exact ⟨(y105), (wrap64 (x12_1 + 1)), zz, H', ⟨by have := HK1.out; omega⟩, ⟨zr HO107.out⟩, ⟨zb HB.out⟩⟩
      ·rw [if_neg c8] at H
       exact absurd H (by simp)
     ·rw [if_neg c7] at H
      exact absurd H (by simp)
    ·rw [if_neg c6] at H
     exact absurd H (by simp)
   ·rw [if_neg c5] at H
    have c5b0 : decide (x12_1 < (l1.length : Int)) = false := decide_eq_false c5; clear c5; obtain rfl := Option.some.inj H; go_wp2; go_ret; (exact ⟨_, by first | rfl | (simp [errW_none, errW_some] <;> rfl) | (simp [*, errW_none, errW_some] <;> rfl), zr HO_5.out, zb HB.out⟩)
def seal_LeafBytes.f (k : Nat) (l0 : List Int) : Option (List Int) := (seal_put.f k 0 (([strOfNums l0] : List ByteArray))).bind fun t111 => (some t111)
theorem seal_LeafBytes.mono : ∀ a0 k, LeO (seal_LeafBytes.f k a0) (seal_LeafBytes.f (k + 1) a0) := by
 intro a0 k
 unfold seal_LeafBytes.f
 repeat' first
   | (with_reducible exact seal_put.mono _ _ _)
   | (with_reducible exact LeO.refl _)
   | (with_reducible exact LeO.none _)
   | (with_reducible refine LeO.ite ?_ ?_)
   | (with_reducible refine LeO.bind ?_ (fun _ => ?_))
set_option maxHeartbeats 8000000 in
set_option maxRecDepth 100000 in
theorem seal_LeafBytes.calls (k : Nat) (A0 : Option Addr) (c0 : Nat) (l0 : List Int) (r : List Int) (w : World) (hr0 : Kd.C (Kd.int .u8) w A0 l0.length l0) (hc0 : l0.length ≤ c0) (h : seal_LeafBytes.f k l0 = some r) :
  Calls Tryd.prog 58 #[.slice A0 l0.length c0] w fun e w' => ∃ v0_ : Value, e = .returned (v0_) ∧ Kd.R (Kd.int .u8) 5 w' w.heap.size (fun _ => True) v0_ r ∧ Below w.heap.size w w' := by
 have HR0 := zM hr0
 have HC0 := zM hc0
 clear hr0 hc0
 have HB := zM (Below.refl w.heap.size w)
 have H : ((seal_put.f k 0 (([strOfNums l0] : List ByteArray))).bind fun t111 => (some t111)) = some r := h
 clear h
 obtain ⟨y108, hy108⟩ : ∃ y_ : List ByteArray, y_ = (([strOfNums l0] : List ByteArray)) := ⟨_, rfl⟩
 replace H : ((seal_put.f k 0 y108).bind fun t111 => (some t111)) = some r := zh H hy108
 have Ny108 := zM hy108
 clear hy108
 replace H := zB H
 obtain ⟨t111, A20, H⟩ := H
 replace H : (some t111) = some r := H
 have A2 := zM A20
 clear A20
 obtain rfl := Option.some.inj H
 have hcv3 := Kd.C_string (P := Tryd.prog) (A := A0) (c := c0) Tryd.underlying41 Tryd.underlying5 Tryd.underlying9 HR0.out
 go_enter Tryd.func58, Tryd.ntmps58
 go_wp2_with (first | ((with_reducible refine gate_dst (N := 5) rfl ?_); refine Kd.R_lit Kd.string _ 9 ?hg (N := 5) ?hd (xs := ([strOfNums l0] : List ByteArray)) (inner := [.string (strOfNums l0)]) (ok := fun _ => True) (okp := fun _ => True) ?hr ?hp (fun _ hk => hk) trivial (Below.refl _ _) (Nat.le_refl _) (by simp) ?_; (case hd => rfl); (case hg => rfl); (case hr => first | (go_simp; done) | (go_simp; rfl)); (case hp => exact (Reps.one (show Kd.M Kd.string _ _ _ (strOfNums l0) [.string (strOfNums l0)] from rfl) (Reps.none _ _))); intro v109 w4 ho5 hb hg_ hnew_; clear hg_ hnew_; (first | rw [← Ny108.out] at ho5 | (simp only [Int.reduceToNat] at ho5; rw [← Ny108.out] at ho5)); have HO110 := zL ho5 HB; replace HB := zS HB hb; clear hb ho5; obtain ⟨Ao6, co6, eo6⟩ := Kd.R_slice HO110.out; subst eo6) | ((with_reducible refine gate_callee (f := 86) rfl ?_); refine goesL_ (some 6) rfl rfl Tryd.func86 (by kernel_rfl) rfl #[.int .u8 0, .slice Ao6 y108.length co6] rfl zm ?_; (with_reducible refine (seal_put.calls k 0 _ _ y108 t111 _ ?side1 ?side2 A2.out).mono ?_); (case side1 => exact zc (Kd.R_reads' HO110.out).2.2); (case side2 => exact (Kd.R_reads' HO110.out).2.1); rintro e w7 ⟨v112, rfl, ho0, hb⟩; refine ⟨_, rfl, ?_⟩; replace HO110 := zR HO110 hb; have HO113 := zL ho0 HB; replace HB := zS HB hb; (try clear hb); (try clear ho0)))
 go_ret
 exact ⟨_, by first | rfl | (simp [errW_none, errW_some] <;> rfl) | (simp [*, errW_none, errW_some] <;> rfl), zr HO113.out, zb HB.out⟩
def seal_Leaf.f (k : Nat) (l0 : List Int) : Option (ByteArray) := (seal_LeafBytes.f k l0).bind fun t114 => ((sha_Sum.f t114).bind fun t117 => (some t117))
theorem seal_Leaf.mono : ∀ a0 k, LeO (seal_Leaf.f k a0) (seal_Leaf.f (k + 1) a0) := by
 intro a0 k
 unfold seal_Leaf.f
 repeat' first
   | (with_reducible exact seal_LeafBytes.mono _ _)
   | (with_reducible exact LeO.refl _)
   | (with_reducible exact LeO.none _)
   | (with_reducible refine LeO.ite ?_ ?_)
   | (with_reducible refine LeO.bind ?_ (fun _ => ?_))
set_option maxHeartbeats 8000000 in
set_option maxRecDepth 100000 in
theorem seal_Leaf.calls (k : Nat) (A0 : Option Addr) (c0 : Nat) (l0 : List Int) (r : ByteArray) (w : World) (hG_ : Aside0 (GW w)) (hr0 : Kd.C (Kd.int .u8) w A0 l0.length l0) (hc0 : l0.length ≤ c0) (h : seal_Leaf.f k l0 = some r) :
  Calls Tryd.prog 57 #[.slice A0 l0.length c0] w fun e w' => e = .returned (.string r) ∧ Below w.heap.size w w' := by
 have HR0 := zM hr0
 have HC0 := zM hc0
 clear hr0 hc0
 have HB := zM (Below.refl w.heap.size w)
 have H : ((seal_LeafBytes.f k l0).bind fun t114 => ((sha_Sum.f t114).bind fun t117 => (some t117))) = some r := h
 clear h
 replace H := zB H
 obtain ⟨t114, A20, H⟩ := H
 replace H : ((sha_Sum.f t114).bind fun t117 => (some t117)) = some r := H
 have A2 := zM A20
 clear A20
 replace H := zB H
 obtain ⟨t117, A30, H⟩ := H
 replace H : (some t117) = some r := H
 have A3 := zM A30
 clear A30
 obtain rfl := Option.some.inj H
 go_enter Tryd.func57, Tryd.ntmps57
 go_wp2_with (first | ((with_reducible refine gate_callee (f := 58) rfl ?_); refine goesL_ (some 4) rfl rfl Tryd.func58 (by kernel_rfl) rfl #[.slice A0 l0.length c0] rfl zm ?_; (with_reducible refine (seal_LeafBytes.calls k _ _ l0 t114 _ ?side1 ?side2 A2.out).mono ?_); (case side1 => repeat (first | exact HR0.out | (with_reducible refine Kd.C_alloc ?_ _) | (with_reducible refine Kd.C_drewN ?_ _) | (with_reducible refine Kd.C_drew ?_))); (case side2 => exact HC0.out); rintro e w4 ⟨v115, rfl, ho0, hb⟩; refine ⟨_, rfl, ?_⟩; have HO116 := zL ho0 HB; replace HB := zS HB hb; (try clear hb); (try clear ho0); obtain ⟨Ao5, co5, eo5⟩ := Kd.R_slice HO116.out; subst eo5) | ((with_reducible refine gate_callee (f := 51) rfl ?_); refine goesL_ (some 5) rfl rfl Tryd.func51 (by kernel_rfl) rfl #[.slice Ao5 t114.length co5] rfl zm ?_; (with_reducible refine (sha_Sum.calls _ _ t114 t117 _ ?side3 ?side1 ?side2 A3.out).mono ?_); (case side1 => exact zc (Kd.R_reads' HO116.out).2.2); (case side2 => exact (Kd.R_reads' HO116.out).2.1); (case side3 => exact gw_step hG_ (zb HB.out)); rintro e w6 ⟨rfl, hb⟩; refine ⟨_, rfl, ?_⟩; replace HO116 := zR HO116 hb; replace HB := zS HB hb; (try clear hb)))
 go_ret
 exact ⟨by first | rfl | (simp [errW_none, errW_some] <;> rfl) | (simp [*, errW_none, errW_some] <;> rfl), zb HB.out⟩
def seal_NodeBytes.f (k : Nat) (a0 : ByteArray) (a1 : ByteArray) : Option (List Int) := (seal_put.f k 1 (([a0, a1] : List ByteArray))).bind fun t121 => (some t121)
theorem seal_NodeBytes.mono : ∀ a0 a1 k, LeO (seal_NodeBytes.f k a0 a1) (seal_NodeBytes.f (k + 1) a0 a1) := by
 intro a0 a1 k
 unfold seal_NodeBytes.f
 repeat' first
   | (with_reducible exact seal_put.mono _ _ _)
   | (with_reducible exact LeO.refl _)
   | (with_reducible exact LeO.none _)
   | (with_reducible refine LeO.ite ?_ ?_)
   | (with_reducible refine LeO.bind ?_ (fun _ => ?_))
set_option maxHeartbeats 8000000 in
set_option maxRecDepth 100000 in
theorem seal_NodeBytes.calls (k : Nat) (a0 : ByteArray) (a1 : ByteArray) (r : List Int) (w : World) (h : seal_NodeBytes.f k a0 a1 = some r) :
  Calls Tryd.prog 59 #[.string a0, .string a1] w fun e w' => ∃ v0_ : Value, e = .returned (v0_) ∧ Kd.R (Kd.int .u8) 5 w' w.heap.size (fun _ => True) v0_ r ∧ Below w.heap.size w w' := by
 have HB := zM (Below.refl w.heap.size w)
 have H : ((seal_put.f k 1 (([a0, a1] : List ByteArray))).bind fun t121 => (some t121)) = some r := h
 clear h
 obtain ⟨y118, hy118⟩ : ∃ y_ : List ByteArray, y_ = (([a0, a1] : List ByteArray)) := ⟨_, rfl⟩
 replace H : ((seal_put.f k 1 y118).bind fun t121 => (some t121)) = some r := zh H hy118
 have Ny118 := zM hy118
 clear hy118
 replace H := zB H
 obtain ⟨t121, A30, H⟩ := H
 replace H : (some t121) = some r := H
 have A3 := zM A30
 clear A30
 obtain rfl := Option.some.inj H
 go_enter Tryd.func59, Tryd.ntmps59
 go_wp2_with (first | ((with_reducible refine gate_dst (N := 7) rfl ?_); refine Kd.R_lit Kd.string _ 9 ?hg (N := 7) ?hd (xs := ([a0, a1] : List ByteArray)) (inner := [.string a0, .string a1]) (ok := fun _ => True) (okp := fun _ => True) ?hr ?hp (fun _ hk => hk) trivial (Below.refl _ _) (Nat.le_refl _) (by simp) ?_; (case hd => rfl); (case hg => rfl); (case hr => first | (go_simp; done) | (go_simp; rfl)); (case hp => exact (Reps.one (show Kd.M Kd.string _ _ _ a0 [.string a0] from rfl) (Reps.one (show Kd.M Kd.string _ _ _ a1 [.string a1] from rfl) (Reps.none _ _)))); intro v119 w4 ho5 hb hg_ hnew_; clear hg_ hnew_; (first | rw [← Ny118.out] at ho5 | (simp only [Int.reduceToNat] at ho5; rw [← Ny118.out] at ho5)); have HO120 := zL ho5 HB; replace HB := zS HB hb; clear hb ho5; obtain ⟨Ao6, co6, eo6⟩ := Kd.R_slice HO120.out; subst eo6) | ((with_reducible refine gate_callee (f := 86) rfl ?_); refine goesL_ (some 8) rfl rfl Tryd.func86 (by kernel_rfl) rfl #[.int .u8 1, .slice Ao6 y118.length co6] rfl zm ?_; (with_reducible refine (seal_put.calls k 1 _ _ y118 t121 _ ?side1 ?side2 A3.out).mono ?_); (case side1 => exact zc (Kd.R_reads' HO120.out).2.2); (case side2 => exact (Kd.R_reads' HO120.out).2.1); rintro e w7 ⟨v122, rfl, ho0, hb⟩; refine ⟨_, rfl, ?_⟩; replace HO120 := zR HO120 hb; have HO123 := zL ho0 HB; replace HB := zS HB hb; (try clear hb); (try clear ho0)))
 go_ret
 exact ⟨_, by first | rfl | (simp [errW_none, errW_some] <;> rfl) | (simp [*, errW_none, errW_some] <;> rfl), zr HO123.out, zb HB.out⟩
def seal_Node.j0 : Nat → ByteArray → ByteArray → Bool → Option (ByteArray × Int)
 | 0, _, _, _ => none
 | k + 1, x0, x1, x13 => if x13 = true then (some ((⟨#[]⟩ : ByteArray), 1)) else ((seal_NodeBytes.f k x0 x1).bind fun t124 => ((sha_Sum.f t124).bind fun t127 => (some (t127, 0))))
def seal_Node.f (k : Nat) (a0 : ByteArray) (a1 : ByteArray) : Option (ByteArray × Int) := if (a0.size : Int) = 32 then (seal_Node.j0 k a0 a1 ((a1.size : Int) != 32)) else (seal_Node.j0 k a0 a1 true)
theorem seal_Node.mono_l : ∀ k, (∀ y0 y1 y2, LeO (seal_Node.j0 k y0 y1 y2) (seal_Node.j0 (k + 1) y0 y1 y2))
 | 0 => fun _ _ _ r h => by simp [seal_Node.j0] at h
 | k + 1 => by
  have ih0 := seal_Node.mono_l k
  ·intro y0 y1 y2
   unfold seal_Node.j0
   repeat' first
   | (with_reducible exact ih0 _ _ _)
   | (with_reducible exact seal_NodeBytes.mono _ _ _)
   | (with_reducible exact LeO.refl _)
   | (with_reducible exact LeO.none _)
   | (with_reducible refine LeO.ite ?_ ?_)
   | (with_reducible refine LeO.bind ?_ (fun _ => ?_))
theorem seal_Node.mono : ∀ a0 a1 k, LeO (seal_Node.f k a0 a1) (seal_Node.f (k + 1) a0 a1) := by
 intro a0 a1 k
 have ih0 := seal_Node.mono_l k
 unfold seal_Node.f
 repeat' first
   | (with_reducible exact ih0 _ _ _)
   | (with_reducible exact seal_NodeBytes.mono _ _ _)
   | (with_reducible exact LeO.refl _)
   | (with_reducible exact LeO.none _)
   | (with_reducible refine LeO.ite ?_ ?_)
   | (with_reducible refine LeO.bind ?_ (fun _ => ?_))
set_option maxHeartbeats 8000000 in
set_option maxRecDepth 100000 in
theorem seal_Node.calls (k : Nat) (a0 : ByteArray) (a1 : ByteArray) (r1 : ByteArray) (r2 : Int) (w : World) (hG_ : Aside0 (GW w)) (h : seal_Node.f k a0 a1 = some (r1, r2)) :
  Calls Tryd.prog 88 #[.string a0, .string a1] w fun e w' => e = .returned (.tuple #[.string r1, .int .i64 r2]) ∧ Below w.heap.size w w' := by
 have HB := zM (Below.refl w.heap.size w)
 have H : (if (a0.size : Int) = 32 then (seal_Node.j0 k a0 a1 ((a1.size : Int) != 32)) else (seal_Node.j0 k a0 a1 true)) = some (r1, r2) := h
 clear h
 have HC3 := zM H
 clear H
 go_enter Tryd.func88, Tryd.ntmps88
 go_upto_region 1 with (fail)
 go_cut [13] (fun v13 wc => ∃ (kq : Nat) (x13_2 : Bool), v13 = .bool x13_2 ∧ Aside0 (seal_Node.j0 kq a0 a1 x13_2 = some (r1, r2)) ∧ Aside0 (kq ≤ k) ∧ Aside0 (Below w.heap.size w wc))
 case first =>
  have H := HC3.out; clear HC3
  by_cases c4 : (a0.size : Int) = 32
  ·rw [if_pos c4] at H
   have c4b0 : ((a0.size : Int) == 32) = true := beq_iff_eq.mpr c4; have c4b1 : ((a0.size : Int) != 32) = false := bne_eq_false_iff_eq.mpr c4; clear c4; (first | rw [c4b0] | (simp only [i64_w, i32_w]; rw [c4b0]) | skip); have H' := zM H; clear H; go_wp2; go_meet
   case rel => exact ⟨_, (((a1.size : Int) != 32)), zz, H', ⟨by first | omega | exact Nat.le_refl _⟩, ⟨zb HB.out⟩⟩
  ·rw [if_neg c4] at H
   have c4b0 : ((a0.size : Int) == 32) = false := beq_eq_false_iff_ne.mpr c4; have c4b1 : ((a0.size : Int) != 32) = true := bne_iff_ne.mpr c4; (first | rw [c4b0] | (simp only [i64_w, i32_w]; rw [c4b0]) | skip); have H' := zM H; clear H; go_wp2; go_meet
   case rel => exact ⟨_, (true), zz, H', ⟨by first | omega | exact Nat.le_refl _⟩, ⟨zb HB.out⟩⟩
 case rest =>
  clear HC3; (try clear p2); (try clear c4); (try clear c4b0); (try clear c4b1); obtain ⟨kq, x13_2, rfl, HA, HJ2, HB⟩ := hcut
  cases kq with
  | zero => exact absurd HA.out (by simp [seal_Node.j0])
  | succ kj2 =>
   have H := HA.out; clear HA; simp only [seal_Node.j0] at H
   by_cases c5 : x13_2 = true
   ·subst c5
    (have H1 : (some ((⟨#[]⟩ : ByteArray), 1)) = some (r1, r2) := by rw [if_pos rfl] at H; exact H); clear H; have H := H1; clear H1; simp only [Option.some.injEq, Prod.mk.injEq] at H; obtain ⟨rfl, rfl⟩ := H; go_wp2; go_ret2; (exact ⟨by first | rfl | (simp [errW_none, errW_some] <;> rfl) | (simp [*, errW_none, errW_some] <;> rfl), zb HB.out⟩)
   ·replace c5 := Bool.eq_false_iff.mpr c5
    subst c5; (have H1 : ((seal_NodeBytes.f kj2 a0 a1).bind fun t124 => ((sha_Sum.f t124).bind fun t127 => (some (t127, 0)))) = some (r1, r2) := by rw [if_neg (show ¬ (false = true) by decide)] at H; exact H); clear H; have H := H1; clear H1; replace H := zB H; obtain ⟨t124, A60, H⟩ := H; (replace H : ((sha_Sum.f t124).bind fun t127 => (some (t127, 0))) = some (r1, r2) := H); have A6 := zM A60; clear A60; replace H := zB H; obtain ⟨t127, A70, H⟩ := H; replace H : (some (t127, 0)) = some (r1, r2) := H; have A7 := zM A70; clear A70; simp only [Option.some.injEq, Prod.mk.injEq] at H; obtain ⟨rfl, rfl⟩ := H; (go_wp2_with (first | ((with_reducible refine gate_callee (f := 59) rfl ?_); refine goesL_ (some 16) rfl rfl Tryd.func59 (by kernel_rfl) rfl #[.string a0, .string a1] rfl zm ?_; (with_reducible refine (seal_NodeBytes.calls kj2 a0 a1 t124 _ A6.out).mono ?_); rintro e w8 ⟨v125, rfl, ho0, hb⟩; refine ⟨_, rfl, ?_⟩; have HO126 := zL ho0 HB; replace HB := zS HB hb; (try clear hb); (try clear ho0); obtain ⟨Ao9, co9, eo9⟩ := Kd.R_slice HO126.out; subst eo9) | ((with_reducible refine gate_callee (f := 51) rfl ?_); refine goesL_ (some 17) rfl rfl Tryd.func51 (by kernel_rfl) rfl #[.slice Ao9 t124.length co9] rfl zm ?_; (with_reducible refine (sha_Sum.calls _ _ t124 t127 _ ?side3 ?side1 ?side2 A7.out).mono ?_); (case side1 => exact zc (Kd.R_reads' HO126.out).2.2); (case side2 => exact (Kd.R_reads' HO126.out).2.1); (case side3 => exact gw_step hG_ (zb HB.out)); rintro e w10 ⟨rfl, hb⟩; refine ⟨_, rfl, ?_⟩; replace HO126 := zR HO126 hb; replace HB := zS HB hb; (try clear hb)))); go_ret2; (exact ⟨by first | rfl | (simp [errW_none, errW_some] <;> rfl) | (simp [*, errW_none, errW_some] <;> rfl), zb HB.out⟩)
def seal_Is.f (l0_0 : List Int) (l0_1 : List Int) : Option (Bool) := if (strOfNums l0_0).toList = (strOfNums l0_1).toList then (some false) else ((sha_Sum.f l0_0).bind fun t129 => ((sha_Sum.f l0_1).bind fun t130 => (some (t129.toList == t130.toList))))
def seal_Is.T1 : Bool × List (List Nat × List Nat) := (true, [([], []), ([0], [0]), ([1], [1]), ([], []), ([3], [3]), ([4], [4]), ([2, 5], [2, 5]), ([6], [6]), ([7], [7]), ([8, 7], [7, 8]), ([9, 7, 7], [7, 9]), ([7], [7]), ([11, 7], [7, 11]), ([12, 10, 7], [7, 12]), ([10, 13, 7], [7, 10, 13]), ([7, 14], [7, 14]), ([15, 13, 0, 1, 2, 3, 4, 5, 6, 7, 8, 9, 10, 11, 12, 13, 14, 15], [15])])
def seal_Is.B1 : List Nat := [0, 1, 3, 0, 8, 24, 63, 127, 255, 511, 1023, 255, 2303, 8191, 16383, 32767, 65535]
theorem seal_Is.tab1 : rtab .any (opsOf Tryd.f35 1) = seal_Is.T1 := by kernel_rfl
theorem seal_Is.bits1 : waitsOk seal_Is.T1.2 seal_Is.B1 = true := by kernel_rfl
set_option maxHeartbeats 8000000 in
set_option maxRecDepth 100000 in
theorem seal_Is.calls (A0_0 : Option Addr) (c0_0 : Nat) (l0_0 : List Int) (A0_1 : Option Addr) (c0_1 : Nat) (l0_1 : List Int) (r : Bool) (w : World) (hG_ : Aside0 (GW w)) (hr0_0 : Kd.C (Kd.int .u8) w A0_0 l0_0.length l0_0) (hc0_0 : l0_0.length ≤ c0_0) (hr0_1 : Kd.C (Kd.int .u8) w A0_1 l0_1.length l0_1) (hc0_1 : l0_1.length ≤ c0_1) (h : seal_Is.f l0_0 l0_1 = some r) :
  Calls Tryd.prog 35 #[.agg #[.slice A0_0 l0_0.length c0_0, .slice A0_1 l0_1.length c0_1]] w fun e w' => e = .returned (.bool r) ∧ Below w.heap.size w w' := by
 have hu44 := Tryd.underlying44
 have HR0_0 := zM hr0_0
 have HC0_0 := zM hc0_0
 clear hr0_0 hc0_0
 have HR0_1 := zM hr0_1
 have HC0_1 := zM hc0_1
 clear hr0_1 hc0_1
 have HB := zM (Below.refl w.heap.size w)
 have H : (if (strOfNums l0_0).toList = (strOfNums l0_1).toList then (some false) else ((sha_Sum.f l0_0).bind fun t129 => ((sha_Sum.f l0_1).bind fun t130 => (some (t129.toList == t130.toList))))) = some r := h
 clear h
 by_cases c2 : (strOfNums l0_0).toList = (strOfNums l0_1).toList
 ·rw [if_pos c2] at H
  have c2b0 : ((strOfNums l0_0).toList == (strOfNums l0_1).toList) = true := beq_iff_eq.mpr c2; have c2b1 : ((strOfNums l0_0).toList != (strOfNums l0_1).toList) = false := bne_eq_false_iff_eq.mpr c2; clear c2; obtain rfl := Option.some.inj H; go_enter Tryd.func35, Tryd.ntmps35; (try go_wp2_with (first | ((with_reducible refine gate_dst (N := 1) rfl ?_); refine box_event ?hg (N := 1) ?hd (cs := #[.slice A0_0 l0_0.length c0_0, .slice A0_1 l0_1.length c0_1]) (t := 44) ?hr ?_; (case hd => rfl); (case hg => rfl); (case hr => first | (go_simp; done) | (go_simp; rfl)); intro gb128 hg w3 hbox hb; have BK128 := zM (hbox); have GW128 := zM ((by rw [hg]; exact (below_size (zb HB.out)) : w.heap.size ≤ gb128)); have GE128 := zM ((by rw [hg]; exact (below_size (zb HB.out)) : w.heap.size ≤ gb128)); replace HB := zS HB hb; clear hb hbox hg))); replace BK128 := zM (blk_drew BK128.out); replace HB := zM (below_drew1 HB.out); (refine start_ (n := 17) (S := fun w' => w'.cell? ⟨gb128, 0, none⟩ = some (.slice A0_0 l0_0.length c0_0) ∧ w'.cell? ⟨gb128, 1, none⟩ = some (.slice A0_1 l0_1.length c0_1) ∧ (convert 41 9 (.slice A0_0 l0_0.length c0_0)).run Tryd.prog w' = .ok (.string (strOfNums l0_0)) w' ∧ (convert 41 9 (.slice A0_1 l0_1.length c0_1)).run Tryd.prog w' = .ok (.string (strOfNums l0_1)) w') (ds := []) #[false, false, false, false, false, false, false, false, false, false, false, false, false, false, false, false, false] (by kernel_rfl) rfl rfl ⟨(blk_cell BK128.out 0).trans rfl, (blk_cell BK128.out 1).trans rfl, (Kd.C_string (P := Tryd.prog) (A := A0_0) (c := c0_0) Tryd.underlying41 Tryd.underlying5 Tryd.underlying9 (Kd.C_below HR0_0.out (zb HB.out))), (Kd.C_string (P := Tryd.prog) (A := A0_1) (c := c0_1) Tryd.underlying41 Tryd.underlying5 Tryd.underlying9 (Kd.C_below HR0_1.out (zb HB.out)))⟩ (fun hHeld => ?_); refine with_tabW seal_Is.tab1 seal_Is.bits1 (fun HT_ HW_ => ?_)); (generalize w3.drew = w4 at BK128 HB hHeld ⊢); (refine HBulk.bulkT (fuel := 9) HT_.out HW_.out [(0, some 3, false), (3, some 6, false), (1, some 4, true), (2, some 5, true), (4, some 7, true), (5, some 8, true), (6, some 9, false), (7, some 10, false)] #[true, true, true, true, true, true, true, true, false, false, false, false, false, false, false, false, false] (a' := ?_) (by kernel_rfl) rfl hHeld ?_ ?_); rotate_left
  ·repeat
    (refine HBulk.RunsM.cons (v := ?_) (a1 := ?_) rfl rfl (fun _ _ _ h => h) (by rfl) ?_ ?_ ?_); rotate_left
    ·intro w' hS_; (try (obtain ⟨s0, s1, s2, s3⟩ := hS_ rfl))
     go_simp; (with_reducible rfl)
    rotate_left
    ·simp only [Act.put, zl, i64_w, i32_w]
     rfl
   exact HBulk.RunsM.nil
  (refine pure_ (i := 8) (N := some 11) (v := undef) (a' := ?_) #[true, true, true, true, true, true, true, true, true, false, false, false, false, false, false, false, false] rfl rfl (any_of HT_.out (by kernel_rfl)) (fun _ _ _ h => h) (Or.inr ⟨by rfl, rfl⟩) ?_ ?_); rotate_left
  ·simp only [Act.put, zl, i64_w, i32_w]
   rfl
  (refine pure_ (i := 9) (N := some 12) (v := undef) (a' := ?_) #[true, true, true, true, true, true, true, true, true, true, false, false, false, false, false, false, false] rfl rfl (any_of HT_.out (by kernel_rfl)) (fun _ _ _ h => h) (Or.inr ⟨by rfl, rfl⟩) ?_ ?_); rotate_left
  ·simp only [Act.put, zl, i64_w, i32_w]
   rfl
  (refine pure_ (i := 10) (N := some 13) (v := undef) (a' := ?_) #[true, true, true, true, true, true, true, true, true, true, true, false, false, false, false, false, false] rfl rfl (any_of HT_.out (by kernel_rfl)) (fun _ _ _ h => h) (Or.inr ⟨by rfl, rfl⟩) ?_ ?_); rotate_left
  ·simp only [Act.put, zl, i64_w, i32_w]
   rfl
  (refine pure_ (i := 11) (N := some 14) (v := undef) (a' := ?_) #[true, true, true, true, true, true, true, true, true, true, true, true, false, false, false, false, false] rfl rfl (any_of HT_.out (by kernel_rfl)) (fun _ _ _ h => h) (Or.inr ⟨by rfl, rfl⟩) ?_ ?_); rotate_left
  ·simp only [Act.put, zl, i64_w, i32_w]
   rfl
  (refine pure_ (i := 12) (N := some 15) (v := undef) (a' := ?_) #[true, true, true, true, true, true, true, true, true, true, true, true, true, false, false, false, false] rfl rfl (any_of HT_.out (by kernel_rfl)) (fun _ _ _ h => h) (Or.inr ⟨by rfl, rfl⟩) ?_ ?_); rotate_left
  ·simp only [Act.put, zl, i64_w, i32_w]
   rfl
  (refine pure_ (i := 13) (N := some 16) (v := undef) (a' := ?_) #[true, true, true, true, true, true, true, true, true, true, true, true, true, true, false, false, false] rfl rfl (any_of HT_.out (by kernel_rfl)) (fun _ _ _ h => h) (Or.inr ⟨by rfl, rfl⟩) ?_ ?_); rotate_left
  ·simp only [Act.put, zl, i64_w, i32_w]
   rfl
  (refine pure_ (i := 14) (N := some 17) (v := undef) (a' := ?_) #[true, true, true, true, true, true, true, true, true, true, true, true, true, true, true, false, false] rfl rfl (any_of HT_.out (by kernel_rfl)) (fun _ _ _ h => h) (Or.inr ⟨by rfl, rfl⟩) ?_ ?_); rotate_left
  ·simp only [Act.put, zl, i64_w, i32_w]
   rfl
  (refine HBulk.bulkT (fuel := 0) HT_.out HW_.out [(15, some 18, false), (16, some 2, false)] #[true, true, true, true, true, true, true, true, true, true, true, true, true, true, true, true, true] (a' := ?_) (by kernel_rfl) rfl hHeld ?_ ?_); rotate_left
  ·repeat
    (refine HBulk.RunsM.cons (v := ?_) (a1 := ?_) rfl rfl (fun _ _ _ h => h) (by rfl) ?_ ?_ ?_); rotate_left
    ·intro w' hS_
     go_simp; (with_reducible rfl)
    rotate_left
    ·simp only [Act.put, zl, i64_w, i32_w]
     rfl
   exact HBulk.RunsM.nil
  (refine done_ (done_of HT_.out (by kernel_rfl)) ?_); (try go_wp2); go_ret; (exact ⟨by first | rfl | (simp [errW_none, errW_some] <;> rfl) | (simp [*, errW_none, errW_some] <;> rfl), zb1 HB.out GE128.out⟩)
 ·rw [if_neg c2] at H
  have c2b0 : ((strOfNums l0_0).toList == (strOfNums l0_1).toList) = false := beq_eq_false_iff_ne.mpr c2; have c2b1 : ((strOfNums l0_0).toList != (strOfNums l0_1).toList) = true := bne_iff_ne.mpr c2; replace H := zB H; obtain ⟨t129, A60, H⟩ := H; (replace H : ((sha_Sum.f l0_1).bind fun t130 => (some (t129.toList == t130.toList))) = some r := H); have A6 := zM A60; clear A60; replace H := zB H; obtain ⟨t130, A70, H⟩ := H; replace H : (some (t129.toList == t130.toList)) = some r := H; have A7 := zM A70; clear A70; obtain rfl := Option.some.inj H; go_enter Tryd.func35, Tryd.ntmps35; (try go_wp2_with (first | ((with_reducible refine gate_dst (N := 1) rfl ?_); refine box_event ?hg (N := 1) ?hd (cs := #[.slice A0_0 l0_0.length c0_0, .slice A0_1 l0_1.length c0_1]) (t := 44) ?hr ?_; (case hd => rfl); (case hg => rfl); (case hr => first | (go_simp; done) | (go_simp; rfl)); intro gb128 hg w8 hbox hb; have BK128 := zM (hbox); have GW128 := zM ((by rw [hg]; exact (below_size (zb HB.out)) : w.heap.size ≤ gb128)); have GE128 := zM ((by rw [hg]; exact (below_size (zb HB.out)) : w.heap.size ≤ gb128)); replace HB := zS HB hb; clear hb hbox hg))); replace BK128 := zM (blk_drew BK128.out); replace HB := zM (below_drew1 HB.out); (refine start_ (n := 17) (S := fun w' => w'.cell? ⟨gb128, 0, none⟩ = some (.slice A0_0 l0_0.length c0_0) ∧ w'.cell? ⟨gb128, 1, none⟩ = some (.slice A0_1 l0_1.length c0_1) ∧ (convert 41 9 (.slice A0_0 l0_0.length c0_0)).run Tryd.prog w' = .ok (.string (strOfNums l0_0)) w' ∧ (convert 41 9 (.slice A0_1 l0_1.length c0_1)).run Tryd.prog w' = .ok (.string (strOfNums l0_1)) w') (ds := []) #[false, false, false, false, false, false, false, false, false, false, false, false, false, false, false, false, false] (by kernel_rfl) rfl rfl ⟨(blk_cell BK128.out 0).trans rfl, (blk_cell BK128.out 1).trans rfl, (Kd.C_string (P := Tryd.prog) (A := A0_0) (c := c0_0) Tryd.underlying41 Tryd.underlying5 Tryd.underlying9 (Kd.C_below HR0_0.out (zb HB.out))), (Kd.C_string (P := Tryd.prog) (A := A0_1) (c := c0_1) Tryd.underlying41 Tryd.underlying5 Tryd.underlying9 (Kd.C_below HR0_1.out (zb HB.out)))⟩ (fun hHeld => ?_); refine with_tabW seal_Is.tab1 seal_Is.bits1 (fun HT_ HW_ => ?_)); (generalize w8.drew = w9 at BK128 HB hHeld ⊢); (refine HBulk.bulkT (fuel := 5) HT_.out HW_.out [(0, some 3, false), (3, some 6, false), (1, some 4, true), (2, some 5, true), (4, some 7, true), (5, some 8, true), (6, some 9, false), (7, some 10, false), (8, some 11, false), (11, some 14, false), (9, some 12, true), (12, some 15, true)] #[true, true, true, true, true, true, true, true, true, true, false, true, true, false, false, false, false] (a' := ?_) (by kernel_rfl) rfl hHeld ?_ ?_); rotate_left
  ·repeat
    (refine HBulk.RunsM.cons (v := ?_) (a1 := ?_) rfl rfl (fun _ _ _ h => h) (by rfl) ?_ ?_ ?_); rotate_left
    ·intro w' hS_; (try (obtain ⟨s0, s1, s2, s3⟩ := hS_ rfl))
     go_simp; (with_reducible rfl)
    rotate_left
    ·simp only [Act.put, zl, i64_w, i32_w]
     rfl
   exact HBulk.RunsM.nil
  (refine one_ (i := 10) (N := some 13) #[true, true, true, true, true, true, true, true, true, true, true, true, true, false, false, false, false] rfl rfl (one_of HT_.out (by kernel_rfl)) (by decide) (fun K hK => ?_)); (refine goes_ Tryd.func51 (by kernel_rfl) rfl #[.slice A0_0 l0_0.length c0_0] (by rfl) rfl rfl zm ?_); (with_reducible refine (sha_Sum.calls _ _ l0_0 t129 _ ?side3 ?side1 ?side2 A6.out).mono ?_); (case side1 => exact zc (Kd.C_below HR0_0.out HB.out)); (case side2 => exact HC0_0.out); (case side3 => exact gw_step hG_ (zb1 HB.out GE128.out)); rintro e w11 ⟨rfl, hb⟩; refine ⟨_, rfl, ?_⟩; replace BK128 := zK BK128 hb; replace HB := zS1 HB GE128 hb; (try clear hb); (refine hK.out _ _ ⟨(blk_cell BK128.out 0).trans rfl, (blk_cell BK128.out 1).trans rfl, (Kd.C_string (P := Tryd.prog) (A := A0_0) (c := c0_0) Tryd.underlying41 Tryd.underlying5 Tryd.underlying9 (Kd.C_below HR0_0.out (zb HB.out))), (Kd.C_string (P := Tryd.prog) (A := A0_1) (c := c0_1) Tryd.underlying41 Tryd.underlying5 Tryd.underlying9 (Kd.C_below HR0_1.out (zb HB.out)))⟩ (fun hHeld => ?_)); clear hK K; refine norm_ (a' := ?_) ?_ ?_; rotate_left
  ·show Act.put _ (some 13) _ = _
   simp only [Act.put, zl, i64_w, i32_w]; rfl
  (refine one_ (i := 13) (N := some 16) #[true, true, true, true, true, true, true, true, true, true, true, true, true, true, false, false, false] rfl rfl (one_of HT_.out (by kernel_rfl)) (by decide) (fun K hK => ?_)); (refine goes_ Tryd.func51 (by kernel_rfl) rfl #[.slice A0_1 l0_1.length c0_1] (by rfl) rfl rfl zm ?_); (with_reducible refine (sha_Sum.calls _ _ l0_1 t130 _ ?side3 ?side1 ?side2 A7.out).mono ?_); (case side1 => exact zc (Kd.C_below HR0_1.out HB.out)); (case side2 => exact HC0_1.out); (case side3 => exact gw_step hG_ (zb1 HB.out GE128.out)); rintro e w12 ⟨rfl, hb⟩; refine ⟨_, rfl, ?_⟩; replace BK128 := zK BK128 hb; replace HB := zS1 HB GE128 hb; (try clear hb); (refine hK.out _ _ ⟨(blk_cell BK128.out 0).trans rfl, (blk_cell BK128.out 1).trans rfl, (Kd.C_string (P := Tryd.prog) (A := A0_0) (c := c0_0) Tryd.underlying41 Tryd.underlying5 Tryd.underlying9 (Kd.C_below HR0_0.out (zb HB.out))), (Kd.C_string (P := Tryd.prog) (A := A0_1) (c := c0_1) Tryd.underlying41 Tryd.underlying5 Tryd.underlying9 (Kd.C_below HR0_1.out (zb HB.out)))⟩ (fun hHeld => ?_)); clear hK K; refine norm_ (a' := ?_) ?_ ?_; rotate_left
  ·show Act.put _ (some 16) _ = _
   simp only [Act.put, zl, i64_w, i32_w]; rfl
  (refine HBulk.bulkT (fuel := 0) HT_.out HW_.out [(14, some 17, false), (15, some 18, false), (16, some 2, false)] #[true, true, true, true, true, true, true, true, true, true, true, true, true, true, true, true, true] (a' := ?_) (by kernel_rfl) rfl hHeld ?_ ?_); rotate_left
  ·repeat
    (refine HBulk.RunsM.cons (v := ?_) (a1 := ?_) rfl rfl (fun _ _ _ h => h) (by rfl) ?_ ?_ ?_); rotate_left
    ·intro w' hS_
     go_simp; (with_reducible rfl)
    rotate_left
    ·simp only [Act.put, zl, i64_w, i32_w]
     rfl
   exact HBulk.RunsM.nil
  (refine done_ (done_of HT_.out (by kernel_rfl)) ?_); (try go_wp2); go_ret; (exact ⟨by first | rfl | (simp [errW_none, errW_some] <;> rfl) | (simp [*, errW_none, errW_some] <;> rfl), zb1 HB.out GE128.out⟩)
def seal_PostsBytes.f (k : Nat) (l0 : List Int) : Option (List Int) := (seal_put.f k 2 (([strOfNums l0] : List ByteArray))).bind fun t134 => (some t134)
set_option maxHeartbeats 8000000 in
set_option maxRecDepth 100000 in
theorem seal_PostsBytes.calls (k : Nat) (A0 : Option Addr) (c0 : Nat) (l0 : List Int) (r : List Int) (w : World) (hr0 : Kd.C (Kd.int .u8) w A0 l0.length l0) (hc0 : l0.length ≤ c0) (h : seal_PostsBytes.f k l0 = some r) :
  Calls Tryd.prog 71 #[.slice A0 l0.length c0] w fun e w' => ∃ v0_ : Value, e = .returned (v0_) ∧ Kd.R (Kd.int .u8) 5 w' w.heap.size (fun _ => True) v0_ r ∧ Below w.heap.size w w' := by
 have HR0 := zM hr0
 have HC0 := zM hc0
 clear hr0 hc0
 have HB := zM (Below.refl w.heap.size w)
 have H : ((seal_put.f k 2 (([strOfNums l0] : List ByteArray))).bind fun t134 => (some t134)) = some r := h
 clear h
 obtain ⟨y131, hy131⟩ : ∃ y_ : List ByteArray, y_ = (([strOfNums l0] : List ByteArray)) := ⟨_, rfl⟩
 replace H : ((seal_put.f k 2 y131).bind fun t134 => (some t134)) = some r := zh H hy131
 have Ny131 := zM hy131
 clear hy131
 replace H := zB H
 obtain ⟨t134, A20, H⟩ := H
 replace H : (some t134) = some r := H
 have A2 := zM A20
 clear A20
 obtain rfl := Option.some.inj H
 have hcv3 := Kd.C_string (P := Tryd.prog) (A := A0) (c := c0) Tryd.underlying41 Tryd.underlying5 Tryd.underlying9 HR0.out
 go_enter Tryd.func71, Tryd.ntmps71
 go_wp2_with (first | ((with_reducible refine gate_dst (N := 5) rfl ?_); refine Kd.R_lit Kd.string _ 9 ?hg (N := 5) ?hd (xs := ([strOfNums l0] : List ByteArray)) (inner := [.string (strOfNums l0)]) (ok := fun _ => True) (okp := fun _ => True) ?hr ?hp (fun _ hk => hk) trivial (Below.refl _ _) (Nat.le_refl _) (by simp) ?_; (case hd => rfl); (case hg => rfl); (case hr => first | (go_simp; done) | (go_simp; rfl)); (case hp => exact (Reps.one (show Kd.M Kd.string _ _ _ (strOfNums l0) [.string (strOfNums l0)] from rfl) (Reps.none _ _))); intro v132 w4 ho5 hb hg_ hnew_; clear hg_ hnew_; (first | rw [← Ny131.out] at ho5 | (simp only [Int.reduceToNat] at ho5; rw [← Ny131.out] at ho5)); have HO133 := zL ho5 HB; replace HB := zS HB hb; clear hb ho5; obtain ⟨Ao6, co6, eo6⟩ := Kd.R_slice HO133.out; subst eo6) | ((with_reducible refine gate_callee (f := 86) rfl ?_); refine goesL_ (some 6) rfl rfl Tryd.func86 (by kernel_rfl) rfl #[.int .u8 2, .slice Ao6 y131.length co6] rfl zm ?_; (with_reducible refine (seal_put.calls k 2 _ _ y131 t134 _ ?side1 ?side2 A2.out).mono ?_); (case side1 => exact zc (Kd.R_reads' HO133.out).2.2); (case side2 => exact (Kd.R_reads' HO133.out).2.1); rintro e w7 ⟨v135, rfl, ho0, hb⟩; refine ⟨_, rfl, ?_⟩; replace HO133 := zR HO133 hb; have HO136 := zL ho0 HB; replace HB := zS HB hb; (try clear hb); (try clear ho0)))
 go_ret
 exact ⟨_, by first | rfl | (simp [errW_none, errW_some] <;> rfl) | (simp [*, errW_none, errW_some] <;> rfl), zr HO136.out, zb HB.out⟩
def seal_HeadBytes.f (k : Nat) (l0 : List Int) : Option (List Int) := (seal_put.f k 3 (([strOfNums l0] : List ByteArray))).bind fun t140 => (some t140)
set_option maxHeartbeats 8000000 in
set_option maxRecDepth 100000 in
theorem seal_HeadBytes.calls (k : Nat) (A0 : Option Addr) (c0 : Nat) (l0 : List Int) (r : List Int) (w : World) (hr0 : Kd.C (Kd.int .u8) w A0 l0.length l0) (hc0 : l0.length ≤ c0) (h : seal_HeadBytes.f k l0 = some r) :
  Calls Tryd.prog 73 #[.slice A0 l0.length c0] w fun e w' => ∃ v0_ : Value, e = .returned (v0_) ∧ Kd.R (Kd.int .u8) 5 w' w.heap.size (fun _ => True) v0_ r ∧ Below w.heap.size w w' := by
 have HR0 := zM hr0
 have HC0 := zM hc0
 clear hr0 hc0
 have HB := zM (Below.refl w.heap.size w)
 have H : ((seal_put.f k 3 (([strOfNums l0] : List ByteArray))).bind fun t140 => (some t140)) = some r := h
 clear h
 obtain ⟨y137, hy137⟩ : ∃ y_ : List ByteArray, y_ = (([strOfNums l0] : List ByteArray)) := ⟨_, rfl⟩
 replace H : ((seal_put.f k 3 y137).bind fun t140 => (some t140)) = some r := zh H hy137
 have Ny137 := zM hy137
 clear hy137
 replace H := zB H
 obtain ⟨t140, A20, H⟩ := H
 replace H : (some t140) = some r := H
 have A2 := zM A20
 clear A20
 obtain rfl := Option.some.inj H
 have hcv3 := Kd.C_string (P := Tryd.prog) (A := A0) (c := c0) Tryd.underlying41 Tryd.underlying5 Tryd.underlying9 HR0.out
 go_enter Tryd.func73, Tryd.ntmps73
 go_wp2_with (first | ((with_reducible refine gate_dst (N := 5) rfl ?_); refine Kd.R_lit Kd.string _ 9 ?hg (N := 5) ?hd (xs := ([strOfNums l0] : List ByteArray)) (inner := [.string (strOfNums l0)]) (ok := fun _ => True) (okp := fun _ => True) ?hr ?hp (fun _ hk => hk) trivial (Below.refl _ _) (Nat.le_refl _) (by simp) ?_; (case hd => rfl); (case hg => rfl); (case hr => first | (go_simp; done) | (go_simp; rfl)); (case hp => exact (Reps.one (show Kd.M Kd.string _ _ _ (strOfNums l0) [.string (strOfNums l0)] from rfl) (Reps.none _ _))); intro v138 w4 ho5 hb hg_ hnew_; clear hg_ hnew_; (first | rw [← Ny137.out] at ho5 | (simp only [Int.reduceToNat] at ho5; rw [← Ny137.out] at ho5)); have HO139 := zL ho5 HB; replace HB := zS HB hb; clear hb ho5; obtain ⟨Ao6, co6, eo6⟩ := Kd.R_slice HO139.out; subst eo6) | ((with_reducible refine gate_callee (f := 86) rfl ?_); refine goesL_ (some 6) rfl rfl Tryd.func86 (by kernel_rfl) rfl #[.int .u8 3, .slice Ao6 y137.length co6] rfl zm ?_; (with_reducible refine (seal_put.calls k 3 _ _ y137 t140 _ ?side1 ?side2 A2.out).mono ?_); (case side1 => exact zc (Kd.R_reads' HO139.out).2.2); (case side2 => exact (Kd.R_reads' HO139.out).2.1); rintro e w7 ⟨v141, rfl, ho0, hb⟩; refine ⟨_, rfl, ?_⟩; replace HO139 := zR HO139 hb; have HO142 := zL ho0 HB; replace HB := zS HB hb; (try clear hb); (try clear ho0)))
 go_ret
 exact ⟨_, by first | rfl | (simp [errW_none, errW_some] <;> rfl) | (simp [*, errW_none, errW_some] <;> rfl), zr HO142.out, zb HB.out⟩
end Go.Proofs.YtpmefpdafkbphaaDoor.PS

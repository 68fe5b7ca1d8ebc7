import Derived.Test.YtpmefpdafkbphaaDoorZtHZ
import Derived.Test.YtpmefpdafkbphaaDoorZtHBulk
import Derived.WalkMore
import Derived.Test.YtpmefpdafkbphaaDoorZtHShaD
import Derived.Laws.StructEq
import Derived.Test.YtpmefpdafkbphaaDoorZtWInv
import Derived.Test.YtpmefpdafkbphaaDoorZtWGuard
namespace Go.Proofs.YtpmefpdafkbphaaDoor.PR
open HZ Go.RowKit Go.Proofs.YtpmefpdafkbphaaDoor HSha Go.Proofs.YtpmefpdafkbphaaDoorW.PrintWords Go.Proofs.YtpmefpdafkbphaaDoorW.PrintLast Go.Proofs.YtpmefpdafkbphaaDoorW.PrintMore
attribute [local go_sem] max2_int min2_int max_two min_two max_three min_three max_four min_four
set_option linter.unusedVariables false
set_option linter.unusedSimpArgs false
def errW : Option Int → Value
 | none => .nilIface
 | some c => .iface 0 (.int .i64 c)
theorem errW_none : errW none = .nilIface := rfl
theorem errW_some (c : Int) : errW (some c) = .iface 0 (.int .i64 c) := rfl
theorem info5 : (Tryd.prog.info? 5).map (fun i => (i.zero, i.size, i.bytes)) = some (some (.int .u8 0), 1, 1) := by kernel_rfl
theorem info100 : (Tryd.prog.info? 100).map (fun i => (i.zero, i.size, i.bytes)) = some (some (.int .u32 0), 1, 4) := by kernel_rfl
end Go.Proofs.YtpmefpdafkbphaaDoor.PR
namespace Go.Proofs.YtpmefpdafkbphaaDoor.PR
open HZ Go.RowKit Go.Proofs.YtpmefpdafkbphaaDoor HSha Go.Proofs.YtpmefpdafkbphaaDoorW.PrintWords Go.Proofs.YtpmefpdafkbphaaDoorW.PrintLast Go.Proofs.YtpmefpdafkbphaaDoorW.PrintMore
attribute [local go_sem] max2_int min2_int max_two min_two max_three min_three max_four min_four
set_option linter.unusedVariables false
set_option linter.unusedSimpArgs false
mutual
def rubrickref01_padded.l0 : Nat → List Int → List Int → Option (List Int)
 | 0, _, _ => none
 | k + 1, x0, x3 => if ((x3.length : Int) % 64) = 56 then (rubrickref01_padded.l1 k x3 (IntKind.u64.wrap ((IntKind.u64.wrap ((x0.length : Int))) * 8)) ([] : List Int) 0) else (if x3.length < 140737488355328 then (rubrickref01_padded.l0 k x0 (x3 ++ [0])) else (none))
def rubrickref01_padded.l1 : Nat → List Int → Int → List Int → Int → Option (List Int)
 | 0, _, _, _, _ => none
 | k + 1, x3, x4, x5, x6 => if x6 < 8 then ((some (([(Int.tmod x4 256) % 256] : List Int) : List Int)).bind fun y113 => (if y113.length + x5.length < 140737488355328 then (rubrickref01_padded.l1 k x3 (IntKind.u64.wrap (Int.tdiv x4 256)) (y113 ++ x5) (wrap64 (x6 + 1))) else (none))) else (if x3.length + x5.length < 140737488355328 then (some (x3 ++ x5)) else (none))
end
def rubrickref01_padded.f (k : Nat) (l0 : List Int) : Option (List Int) := (some (([] : List Int) : List Int)).bind fun y101 => (if y101.length + l0.length < 140737488355328 then ((some (y101 ++ l0 : List Int)).bind fun y104 => (if y104.length < 140737488355328 then (rubrickref01_padded.l0 k l0 (y104 ++ [128])) else (none))) else (none))
theorem rubrickref01_padded.mono_l : ∀ k, (∀ y0 y1, LeO (rubrickref01_padded.l0 k y0 y1) (rubrickref01_padded.l0 (k + 1) y0 y1)) ∧ (∀ y0 y1 y2 y3, LeO (rubrickref01_padded.l1 k y0 y1 y2 y3) (rubrickref01_padded.l1 (k + 1) y0 y1 y2 y3))
 | 0 => ⟨fun _ _ r h => by simp [rubrickref01_padded.l0] at h, fun _ _ _ _ r h => by simp [rubrickref01_padded.l1] at h⟩
 | k + 1 => by
  obtain ⟨ih0, ih1⟩ := rubrickref01_padded.mono_l k; refine ⟨?_, ?_⟩
  ·intro y0 y1
   unfold rubrickref01_padded.l0
   repeat' first
   | (with_reducible exact ih0 _ _)
   | (with_reducible exact ih1 _ _ _ _)
   | (with_reducible exact LeO.refl _)
   | (with_reducible exact LeO.none _)
   | (with_reducible refine LeO.ite ?_ ?_)
   | (with_reducible refine LeO.bind ?_ (fun _ => ?_))
  ·intro y0 y1 y2 y3
   unfold rubrickref01_padded.l1
   repeat' first
   | (with_reducible exact ih0 _ _)
   | (with_reducible exact ih1 _ _ _ _)
   | (with_reducible exact LeO.refl _)
   | (with_reducible exact LeO.none _)
   | (with_reducible refine LeO.ite ?_ ?_)
   | (with_reducible refine LeO.bind ?_ (fun _ => ?_))
theorem rubrickref01_padded.mono : ∀ a0 k, LeO (rubrickref01_padded.f k a0) (rubrickref01_padded.f (k + 1) a0) := by
 intro a0 k
 obtain ⟨ih0, ih1⟩ := rubrickref01_padded.mono_l k
 unfold rubrickref01_padded.f
 repeat' first
   | (with_reducible exact ih0 _ _)
   | (with_reducible exact ih1 _ _ _ _)
   | (with_reducible exact LeO.refl _)
   | (with_reducible exact LeO.none _)
   | (with_reducible refine LeO.ite ?_ ?_)
   | (with_reducible refine LeO.bind ?_ (fun _ => ?_))
set_option maxHeartbeats 8000000 in
set_option maxRecDepth 100000 in
theorem rubrickref01_padded.calls (k : Nat) (A0 : Option Addr) (c0 : Nat) (l0 : List Int) (r : List Int) (w : World) (hr0 : Kd.C (Kd.int .u8) w A0 l0.length l0) (hc0 : l0.length ≤ c0) (h : rubrickref01_padded.f k l0 = some r) :
  Calls Tryd.prog 84 #[.slice A0 l0.length c0] w fun e w' => ∃ v0_ : Value, e = .returned (v0_) ∧ Kd.R (Kd.int .u8) 5 w' w.heap.size (fun _ => True) v0_ r ∧ Below w.heap.size w w' := by
 have HR0 := zM hr0
 have HC0 := zM hc0
 clear hr0 hc0
 have HB := zM (Below.refl w.heap.size w)
 have H : ((some (([] : List Int) : List Int)).bind fun y101 => (if y101.length + l0.length < 140737488355328 then ((some (y101 ++ l0 : List Int)).bind fun y104 => (if y104.length < 140737488355328 then (rubrickref01_padded.l0 k l0 (y104 ++ [128])) else (none))) else (none))) = some r := h
 clear h
 obtain ⟨y101, hy101⟩ : ∃ y_ : List Int, y_ = (([] : List Int)) := ⟨_, rfl⟩
 replace H : (if y101.length + l0.length < 140737488355328 then ((some (y101 ++ l0 : List Int)).bind fun y104 => (if y104.length < 140737488355328 then (rubrickref01_padded.l0 k l0 (y104 ++ [128])) else (none))) else (none)) = some r := zh H hy101
 have Ny101 := zM hy101
 clear hy101
 by_cases c2 : y101.length + l0.length < 140737488355328
 ·rw [if_pos c2] at H
  have LMc2 := zM c2; clear c2; obtain ⟨y104, hy104⟩ : ∃ y_ : List Int, y_ = (y101 ++ l0) := ⟨_, rfl⟩; (replace H : (if y104.length < 140737488355328 then (rubrickref01_padded.l0 k l0 (y104 ++ [128])) else (none)) = some r := zh H hy104); have Ny104 := zM hy104; clear hy104
  by_cases c3 : y104.length < 140737488355328
  ·rw [if_pos c3] at H
   have LMc3 := zM c3; clear c3; obtain ⟨y107, hy107⟩ : ∃ y_ : List Int, y_ = (y104 ++ [128]) := ⟨_, rfl⟩; replace H : (rubrickref01_padded.l0 k l0 y107) = some r := zh H hy107; have Ny107 := zM hy107; clear hy107; have H' := zM H; clear H; go_enter Tryd.func84, Tryd.ntmps84; (go_wp2_with (first | ((with_reducible refine gate_dst (N := 7) rfl ?_); refine Kd.R_lit (Kd.int .u8) _ 5 ?hg (N := 7) ?hd (xs := ([] : List Int)) (inner := []) (ok := fun _ => True) (okp := fun _ => True) ?hr ?hp (fun _ hk => hk) trivial (Below.refl _ _) (Nat.le_refl _) (by simp) ?_; (case hd => rfl); (case hg => rfl); (case hr => first | (go_simp; done) | (go_simp; rfl)); (case hp => exact (Reps.none _ _)); intro v102 w4 ho5 hb hg_ hnew_; clear hg_ hnew_; (first | rw [← Ny101.out] at ho5 | (simp only [Int.reduceToNat] at ho5; rw [← Ny101.out] at ho5)); have HO103 := zL ho5 HB; replace HB := zS HB hb; clear hb ho5) | ((with_reducible refine gate_builtin (b := .append) (xs := #[.tmp 7, .tmp 8]) rfl ?_); at_builtin; refine Kd.R_append_rows (Kd.int .u8) (w0 := w) w.heap.size rfl (.tmp 7) (.tmp 8) 41 5 (.int .u8 0) 1 rfl Tryd.underlying41 info5 rfl (by decide) (by omega) v102 y101 l0 _ _ _ (fun _ => True) (fun _ => False) rfl rfl ?aO ?aR (fun _ _ h => h) (fun _ h => h.elim) ?aF ?aB ?aS ?aL ?_; (case aR => exact zc (Kd.C_below HR0.out HB.out)); (case aB => exact (zb HB.out)); (case aF => exact (fun _ _ => trivial)); (case aO => exact (zr HO103.out)); (case aS => exact (below_size (zb HB.out))); (case aL => have := LMc2.out; omega); intro v105 w6 ho hb hg hat; rw [← Ny104.out] at ho; replace HB := zM (hb); have HO106 := zM (ho); clear HO103 ho hb hg hat) | ((with_reducible refine gate_builtin (b := .append) (xs := #[.tmp 9, .tmp 10]) rfl ?_); at_builtin; refine Kd.R_append (Kd.int .u8) (w0 := w) w.heap.size rfl (.tmp 9) (.tmp 10) 41 5 (.int .u8 0) 1 rfl Tryd.underlying41 info5 rfl (by decide) (by omega) v105 y104 128 [.int .u8 128] (fun _ => True) (fun _ => False) rfl rfl ?aP (fun _ hk => hk.elim) ?aF ?aO ?aB ?aS ?aL ?_; (case aP => exact rfl); (case aB => exact (zb HB.out)); (case aF => exact (fun _ _ => trivial)); (case aO => exact (zr HO106.out)); (case aS => exact (below_size (zb HB.out))); (case aL => have := LMc3.out; omega); intro v108 w7 ho hb hg hat; rw [← Ny107.out] at ho; replace HB := zM (hb); have HO109 := zM (ho); clear HO106 ho hb hg hat))); (go_loopg [3] k (fun kq v3 w' => ∃ (x3_1 : List Int), Aside0 (rubrickref01_padded.l0 kq l0 x3_1 = some r) ∧ Aside0 (kq ≤ k) ∧ Aside0 (Kd.R (Kd.int .u8) 5 w' w.heap.size (fun _ => True) v3 x3_1) ∧ Aside0 (Below w.heap.size w w')))
   case atStart => exact ⟨(y107), H', ⟨Nat.le_refl _⟩, ⟨zr HO109.out⟩, ⟨zb HB.out⟩⟩
   case round =>
    clear H'; (try clear c2); (try clear p2); (try clear c3); obtain ⟨x3_1, HA, HK1, HO_3, HB⟩ := hrel
    cases gk with
    | zero => exact absurd HA.out (by simp [rubrickref01_padded.l0])
    | succ k1 =>
     have H := HA.out; clear HA; simp only [rubrickref01_padded.l0] at H
     by_cases c8 : ((x3_1.length : Int) % 64) = 56
     ·rw [if_pos c8] at H
      have c8b0 : (((x3_1.length : Int) % 64) == 56) = true := beq_iff_eq.mpr c8; have c8b1 : (((x3_1.length : Int) % 64) != 56) = false := bne_eq_false_iff_eq.mpr c8; clear c8; have H' := zM H; clear H; obtain ⟨Ao9, co9, eo9⟩ := Kd.R_slice HO_3.out; subst eo9; go_wp2; (go_loopg [4, 5, 6] k1 (fun kq v4 v5 v6 w' => ∃ (x4_2 : Int) (x5_2 : List Int) (x6_2 : Int), v4 = .int .u64 x4_2 ∧ v6 = .int .i64 x6_2 ∧ Aside0 (rubrickref01_padded.l1 kq x3_1 x4_2 x5_2 x6_2 = some r) ∧ Aside0 (kq ≤ k1) ∧ Aside0 (Kd.R (Kd.int .u8) 5 w' w.heap.size (fun k_ => some k_ ≠ (v5 : Value).ownBlock) (.slice Ao9 x3_1.length co9) x3_1) ∧ Aside0 (Kd.R (Kd.int .u8) 5 w' w.heap.size (fun k_ => some k_ ≠ ((.slice Ao9 x3_1.length co9) : Value).ownBlock) v5 x5_2) ∧ Aside0 (Below w.heap.size w w')))
      case atStart => exact ⟨(IntKind.u64.wrap ((IntKind.u64.wrap ((l0.length : Int))) * 8)), (([] : List Int)), (0), zz, zz, H', ⟨Nat.le_refl _⟩, ⟨by (with_reducible repeat (first | apply Kd.R_alloc | apply Kd.R_drewN | apply Kd.R_drew)); exact Kd.R_mono HO_3.out (fun _ hk => (by simp [Value.ownBlock]))⟩, ⟨by first | exact Kd.R_nil _ _ _ _ _ | exact Kd.N_nil _ _ _ _ _ | exact Kd.V_nil _ _ _ _ _ | exact Kd.Q_nil _ _ _ _ _ | exact Kd.S_nil _ _ _ _ _⟩, ⟨zb HB.out⟩⟩
      case round =>
       clear H'; (try clear c2); (try clear p2); (try clear c3); (try clear c8); (try clear c8b0); (try clear c8b1); (try clear p2); obtain ⟨x4_2, x5_2, x6_2, rfl, rfl, HA, HK2, HO_3, HO_5, HB⟩ := hrel
       cases gk with
       | zero => exact absurd HA.out (by simp [rubrickref01_padded.l1])
       | succ k2 =>
        have H := HA.out; clear HA; simp only [rubrickref01_padded.l1] at H
        by_cases c10 : x6_2 < 8
        ·rw [if_pos c10] at H
         have c10b0 : decide (x6_2 < 8) = true := decide_eq_true c10; clear c10; obtain ⟨y113, hy113⟩ : ∃ y_ : List Int, y_ = (([(Int.tmod x4_2 256) % 256] : List Int)) := ⟨_, rfl⟩; (replace H : (if y113.length + x5_2.length < 140737488355328 then (rubrickref01_padded.l1 k2 x3_1 (IntKind.u64.wrap (Int.tdiv x4_2 256)) (y113 ++ x5_2) (wrap64 (x6_2 + 1))) else (none)) = some r := zh H hy113); have Ny113 := zM hy113; clear hy113
         by_cases c11 : y113.length + x5_2.length < 140737488355328
         ·rw [if_pos c11] at H
          have LMc11 := zM c11; clear c11; obtain ⟨y116, hy116⟩ : ∃ y_ : List Int, y_ = (y113 ++ x5_2) := ⟨_, rfl⟩; replace H : (rubrickref01_padded.l1 k2 x3_1 (IntKind.u64.wrap (Int.tdiv x4_2 256)) y116 (wrap64 (x6_2 + 1))) = some r := zh H hy116; have Ny116 := zM hy116; clear hy116; have H' := zM H; clear H; (go_wp2_with (first | ((with_reducible refine gate_dst (N := 30) rfl ?_); refine Kd.R_lit (Kd.int .u8) _ 5 ?hg (N := 30) ?hd (xs := ([(Int.tmod x4_2 256) % 256] : List Int)) (inner := [.int .u8 ((Int.tmod x4_2 256) % 256)]) (ok := fun _ => True) (okp := fun _ => True) ?hr ?hp (fun _ hk => hk) trivial (Below.refl _ _) (Nat.le_refl _) (by simp) ?_; (case hd => rfl); (case hg => rfl); (case hr => first | (go_simp; done) | (go_simp; rfl)); (case hp => exact (Reps.one (show Kd.M (Kd.int .u8) _ _ _ ((Int.tmod x4_2 256) % 256) [.int .u8 ((Int.tmod x4_2 256) % 256)] from rfl) (Reps.none _ _))); intro v114 w12 ho13 hb hg_ hnew_; clear hg_ hnew_; (first | rw [← Ny113.out] at ho13 | (simp only [Int.reduceToNat] at ho13; rw [← Ny113.out] at ho13)); have HO115 := zM (Kd.R_lower (Kd.R_new' (Kd.R_new' ho13 (Kd.R_lt (zr HO_3.out))) (Kd.R_lt (zr HO_5.out))) (below_size (zb HB.out))); replace HO_3 := zM (Kd.R_elder' (zr HO_3.out) (Kd.R_base ho13) hb); replace HO_5 := zM (Kd.R_elder' (zr HO_5.out) (Kd.R_base ho13) hb); replace HB := zS HB hb; clear hb ho13; obtain ⟨Ao15, co15, eo15⟩ := Kd.R_slice HO_5.out; subst eo15) | ((with_reducible refine gate_builtin (b := .append) (xs := #[.tmp 30, .tmp 31]) rfl ?_); at_builtin; refine Kd.R_append_rows (Kd.int .u8) (w0 := w) w.heap.size rfl (.tmp 30) (.tmp 31) 41 5 (.int .u8 0) 1 rfl Tryd.underlying41 info5 rfl (by decide) (by omega) v114 y113 x5_2 _ _ _ (fun k_ => some k_ ≠ (.slice Ao9 x3_1.length co9 : Value).ownBlock ∧ some k_ ≠ (.slice Ao15 x5_2.length co15 : Value).ownBlock) (fun _ => False) rfl rfl ?aO ?aR (fun _ _ h => h) (fun _ h => h.elim) ?aF ?aB ?aS ?aL ?_; (case aR => exact zc (Kd.R_reads' HO_5.out).2.2); (case aB => exact (zb HB.out)); (case aF => exact (fun k_ hk => ⟨Kd.fresh' (Kd.R_lt (zr HO_3.out)) k_ hk, Kd.fresh' (Kd.R_lt (zr HO_5.out)) k_ hk⟩)); (case aO => exact (by (with_reducible repeat (first | apply Kd.R_alloc | apply Kd.R_drewN | apply Kd.R_drew)); exact Kd.R_mono HO115.out (fun _ hk => ⟨hk.1.2, hk.2⟩))); (case aS => exact (below_size (zb HB.out))); (case aL => have := LMc11.out; omega); intro v117 w14 ho hb hg hat; rw [← Ny116.out] at ho; replace HO_3 := zM (Kd.R_after (ok := (fun k_ => some k_ ≠ (.slice Ao15 x5_2.length co15 : Value).ownBlock)) (zr HO_3.out) hg hat); replace HO_5 := zM (Kd.R_after (ok := (fun k_ => some k_ ≠ (.slice Ao9 x3_1.length co9 : Value).ownBlock)) (zr HO_5.out) hg hat); replace HB := zM (hb); have HO118 := zM (ho); clear HO115 ho hb hg hat))); go_roundg k2
          case measure => have := HK1.out; have := HK2.out; omega
          case rel => exact ⟨(IntKind.u64.wrap (Int.tdiv x4_2 256)), (y116), (wrap64 (x6_2 + 1)), zz, zz, H', ⟨by have := HK1.out; have := HK2.out; omega⟩, ⟨by (with_reducible repeat (first | apply Kd.R_alloc | apply Kd.R_drewN | apply Kd.R_drew)); exact Kd.R_mono HO_3.out (fun _ hk => hk.2)⟩, ⟨by (with_reducible repeat (first | apply Kd.R_alloc | apply Kd.R_drewN | apply Kd.R_drew)); exact Kd.R_mono HO118.out (fun _ hk => hk.1)⟩, ⟨zb HB.out⟩⟩
         ·rw [if_neg c11] at H
          exact absurd H (by simp)
        ·rw [if_neg c10] at H
         have c10b0 : decide (x6_2 < 8) = false := decide_eq_false c10; clear c10
         by_cases c16 : x3_1.length + x5_2.length < 140737488355328
         ·rw [if_pos c16] at H
          have LMc16 := zM c16; clear c16; obtain ⟨y119, hy119⟩ : ∃ y_ : List Int, y_ = (x3_1 ++ x5_2) := ⟨_, rfl⟩; replace H : (some y119) = some r := zh H hy119; have Ny119 := zM hy119; clear hy119; obtain rfl := Option.some.inj H; obtain ⟨Ao18, co18, eo18⟩ := Kd.R_slice HO_5.out; subst eo18; (go_wp2_with (first | ((with_reducible refine gate_builtin (b := .append) (xs := #[.tmp 35, .tmp 36]) rfl ?_); at_builtin; refine Kd.R_append_rows (Kd.int .u8) (w0 := w) w.heap.size rfl (.tmp 35) (.tmp 36) 41 5 (.int .u8 0) 1 rfl Tryd.underlying41 info5 rfl (by decide) (by omega) (.slice Ao9 x3_1.length co9) x3_1 x5_2 _ _ _ (fun k_ => some k_ ≠ (.slice Ao18 x5_2.length co18 : Value).ownBlock) (fun _ => False) rfl rfl ?aO ?aR (fun _ _ h => h) (fun _ h => h.elim) ?aF ?aB ?aS ?aL ?_; (case aR => exact zc (Kd.R_reads' HO_5.out).2.2); (case aB => exact (zb HB.out)); (case aF => exact (fun k_ hk => Kd.fresh' (Kd.R_lt (zr HO_5.out)) k_ hk)); (case aO => exact (zr HO_3.out)); (case aS => exact (below_size (zb HB.out))); (case aL => have := LMc16.out; omega); intro v120 w17 ho hb hg hat; rw [← Ny119.out] at ho; replace HO_5 := zM (Kd.R_after (ok := (fun _ => True)) (by (with_reducible repeat (first | apply Kd.R_alloc | apply Kd.R_drewN | apply Kd.R_drew)); exact Kd.R_mono HO_5.out (fun _ hk => ⟨trivial, hk⟩)) hg hat); replace HB := zM (hb); have HO121 := zM (ho); clear HO_3 ho hb hg hat))); go_ret; (exact ⟨_, by first | rfl | (simp [errW_none, errW_some] <;> rfl) | (simp [*, errW_none, errW_some] <;> rfl), by (with_reducible repeat (first | apply Kd.R_alloc | apply Kd.R_drewN | apply Kd.R_drew)); exact Kd.R_mono HO121.out (fun _ hk => trivial), zb HB.out⟩)
         ·rw [if_neg c16] at H
          exact absurd H (by simp)
     ·rw [if_neg c8] at H
      have c8b0 : (((x3_1.length : Int) % 64) == 56) = false := beq_eq_false_iff_ne.mpr c8; have c8b1 : (((x3_1.length : Int) % 64) != 56) = true := bne_iff_ne.mpr c8
      by_cases c19 : x3_1.length < 140737488355328
      ·rw [if_pos c19] at H
       have LMc19 := zM c19; clear c19; obtain ⟨y110, hy110⟩ : ∃ y_ : List Int, y_ = (x3_1 ++ [0]) := ⟨_, rfl⟩; replace H : (rubrickref01_padded.l0 k1 l0 y110) = some r := zh H hy110; have Ny110 := zM hy110; clear hy110; have H' := zM H; clear H; obtain ⟨Ao20, co20, eo20⟩ := Kd.R_slice HO_3.out; subst eo20; (go_wp2_with (first | ((with_reducible refine gate_builtin (b := .append) (xs := #[.tmp 16, .tmp 17]) rfl ?_); at_builtin; refine Kd.R_append (Kd.int .u8) (w0 := w) w.heap.size rfl (.tmp 16) (.tmp 17) 41 5 (.int .u8 0) 1 rfl Tryd.underlying41 info5 rfl (by decide) (by omega) (.slice Ao20 x3_1.length co20) x3_1 0 [.int .u8 0] (fun _ => True) (fun _ => False) rfl rfl ?aP (fun _ hk => hk.elim) ?aF ?aO ?aB ?aS ?aL ?_; (case aP => exact rfl); (case aB => exact (zb HB.out)); (case aF => exact (fun _ _ => trivial)); (case aO => exact (zr HO_3.out)); (case aS => exact (below_size (zb HB.out))); (case aL => have := LMc19.out; omega); intro v111 w21 ho hb hg hat; rw [← Ny110.out] at ho; replace HB := zM (hb); have HO112 := zM (ho); clear HO_3 ho hb hg hat))); go_roundg k1
       case measure => have := HK1.out; omega
       case rel => exact ⟨(y110), H', ⟨by have := HK1.out; omega⟩, ⟨zr HO112.out⟩, ⟨zb HB.out⟩⟩
      ·rw [if_neg c19] at H
       exact absurd H (by simp)
  ·rw [if_neg c3] at H
   exact absurd H (by simp)
 ·rw [if_neg c2] at H
  exact absurd H (by simp)
def rubrickref01_right.f (a0 : Int) (a1 : Int) : Option (Int) := if 0 ≤ a1 then (if 0 ≤ (wrap64 (32 - a1)) then (some (((shr .u32 a0 a1) + (shl .u32 a0 (wrap64 (32 - a1)))) % 4294967296)) else (none)) else (none)
set_option maxHeartbeats 8000000 in
set_option maxRecDepth 100000 in
theorem rubrickref01_right.calls (a0 : Int) (a1 : Int) (r : Int) (w : World) (h : rubrickref01_right.f a0 a1 = some r) :
  Calls Tryd.prog 94 #[.int .u32 a0, .int .i64 a1] w fun e w' => e = .returned (.int .u32 r) ∧ Drawn0 w w' := by
 have H : (if 0 ≤ a1 then (if 0 ≤ (wrap64 (32 - a1)) then (some (((shr .u32 a0 a1) + (shl .u32 a0 (wrap64 (32 - a1)))) % 4294967296)) else (none)) else (none)) = some r := h
 clear h
 by_cases c3 : 0 ≤ a1
 ·rw [if_pos c3] at H
  have c3b0 := eq_true c3; have c3b1 : decide (0 ≤ a1) = true := decide_eq_true c3; clear c3; obtain ⟨ji4, hji4⟩ : ∃ j_ : Int, (shr .u32 a0 a1) = j_ := ⟨_, rfl⟩; (replace H : (if 0 ≤ (wrap64 (32 - a1)) then (some (((ji4) + (shl .u32 a0 (wrap64 (32 - a1)))) % 4294967296)) else (none)) = some r := by first | (rw [hji4] at H; exact H) | (simp only [hji4] at H ⊢; exact H)); have hji4_ : (a0 / 2 ^ min a1.toNat 32) = ji4 := hji4; have hji4z : a1 ≤ 32 → (a0 / 2 ^ a1.toNat) = ji4 := shr_small hji4; obtain ⟨ji5, hji5⟩ : ∃ j_ : Int, (wrap64 (32 - a1)) = j_ := ⟨_, rfl⟩; (replace H : (if 0 ≤ (ji5) then (some (((ji4) + (shl .u32 a0 (ji5))) % 4294967296)) else (none)) = some r := by first | (rw [hji5] at H; exact H) | (simp only [hji5] at H ⊢; exact H)); have hji5w : (IntKind.i64.wrap (32 - a1)) = ji5 := (i64_w _).trans hji5
  by_cases c6 : 0 ≤ (ji5)
  ·rw [if_pos c6] at H
   have c6b0 := eq_true c6; have c6b1 : decide (0 ≤ (ji5)) = true := decide_eq_true c6; clear c6; obtain ⟨ji7, hji7⟩ : ∃ j_ : Int, (shl .u32 a0 (ji5)) = j_ := ⟨_, rfl⟩; (replace H : (some (((ji4) + (ji7)) % 4294967296)) = some r := by first | (rw [hji7] at H; exact H) | (simp only [hji7] at H ⊢; exact H)); have hji7_ : (IntKind.u32.wrap (a0 * 2 ^ min (ji5).toNat 32)) = ji7 := hji7; have hji7z : (ji5) ≤ 32 → (IntKind.u32.wrap (a0 * 2 ^ (ji5).toNat)) = ji7 := shl_small hji7; obtain rfl := Option.some.inj H; go_enter Tryd.func94, Tryd.ntmps94; go_wp2; (repeat (go_quiet (fail); try go_wp2)); go_ret; (exact ⟨by first | rfl | (simp; done) | (simp only [← hji4, ← hji5, ← hji7] <;> (first | rfl | simp)) | (simp [*]; done), by repeat (first | exact Drawn0.refl _ | apply Drawn0.step)⟩)
  ·rw [if_neg c6] at H
   exact absurd H (by simp)
 ·rw [if_neg c3] at H
  exact absurd H (by simp)
end Go.Proofs.YtpmefpdafkbphaaDoor.PR
namespace Go.Proofs.YtpmefpdafkbphaaDoor.PR
open HZ Go.RowKit Go.Proofs.YtpmefpdafkbphaaDoor HSha Go.Proofs.YtpmefpdafkbphaaDoorW.PrintWords Go.Proofs.YtpmefpdafkbphaaDoorW.PrintLast Go.Proofs.YtpmefpdafkbphaaDoorW.PrintMore
attribute [local go_sem] max2_int min2_int max_two min_two max_three min_three max_four min_four
set_option linter.unusedVariables false
set_option linter.unusedSimpArgs false
mutual
def rubrickref01_schedule.l0 : Nat → List Int → List Int → Int → Option (List Int)
 | 0, _, _, _ => none
 | k + 1, x0, x3, x4 => if x4 < 64 then (if 0 ≤ x4 then (if x4 < (x0.length : Int) then (if 0 ≤ (wrap64 (x4 + 1)) then (if (wrap64 (x4 + 1)) < (x0.length : Int) then (if 0 ≤ (wrap64 (x4 + 2)) then (if (wrap64 (x4 + 2)) < (x0.length : Int) then (if 0 ≤ (wrap64 (x4 + 3)) then (if (wrap64 (x4 + 3)) < (x0.length : Int) then (if x3.length < 35184372088832 then (rubrickref01_schedule.l0 k x0 (x3 ++ [(((((((((rd x0 x4) % 4294967296) * 16777216) % 4294967296) + ((((rd x0 (wrap64 (x4 + 1))) % 4294967296) * 65536) % 4294967296)) % 4294967296) + ((((rd x0 (wrap64 (x4 + 2))) % 4294967296) * 256) % 4294967296)) % 4294967296) + ((rd x0 (wrap64 (x4 + 3))) % 4294967296)) % 4294967296]) (wrap64 (x4 + 4))) else (none)) else (none)) else (none)) else (none)) else (none)) else (none)) else (none)) else (none)) else (none)) else (rubrickref01_schedule.l1 k x3 16)
def rubrickref01_schedule.l1 : Nat → List Int → Int → Option (List Int)
 | 0, _, _ => none
 | k + 1, x3, x5 => if x5 < 64 then (if 0 ≤ (wrap64 (x5 - 15)) then (if (wrap64 (x5 - 15)) < (x3.length : Int) then ((rubrickref01_right.f (rd x3 (wrap64 (x5 - 15))) 7).bind fun t130 => ((rubrickref01_right.f (rd x3 (wrap64 (x5 - 15))) 18).bind fun t132 => (if 0 ≤ (wrap64 (x5 - 2)) then (if (wrap64 (x5 - 2)) < (x3.length : Int) then ((rubrickref01_right.f (rd x3 (wrap64 (x5 - 2))) 17).bind fun t135 => ((rubrickref01_right.f (rd x3 (wrap64 (x5 - 2))) 19).bind fun t137 => (if 0 ≤ (wrap64 (x5 - 16)) then (if (wrap64 (x5 - 16)) < (x3.length : Int) then (if 0 ≤ (wrap64 (x5 - 7)) then (if (wrap64 (x5 - 7)) < (x3.length : Int) then (if x3.length < 35184372088832 then (rubrickref01_schedule.l1 k (x3 ++ [((((((rd x3 (wrap64 (x5 - 16))) + (Go.bits .xor .u32 (Go.bits .xor .u32 t130 t132) ((rd x3 (wrap64 (x5 - 15))) / 8))) % 4294967296) + (rd x3 (wrap64 (x5 - 7)))) % 4294967296) + (Go.bits .xor .u32 (Go.bits .xor .u32 t135 t137) ((rd x3 (wrap64 (x5 - 2))) / 1024))) % 4294967296]) (wrap64 (x5 + 1))) else (none)) else (none)) else (none)) else (none)) else (none)))) else (none)) else (none)))) else (none)) else (none)) else (some x3)
end
def rubrickref01_schedule.f (k : Nat) (l0 : List Int) : Option (List Int) := rubrickref01_schedule.l0 k l0 ([] : List Int) 0
theorem rubrickref01_schedule.mono_l : ∀ k, (∀ y0 y1 y2, LeO (rubrickref01_schedule.l0 k y0 y1 y2) (rubrickref01_schedule.l0 (k + 1) y0 y1 y2)) ∧ (∀ y0 y1, LeO (rubrickref01_schedule.l1 k y0 y1) (rubrickref01_schedule.l1 (k + 1) y0 y1))
 | 0 => ⟨fun _ _ _ r h => by simp [rubrickref01_schedule.l0] at h, fun _ _ r h => by simp [rubrickref01_schedule.l1] at h⟩
 | k + 1 => by
  obtain ⟨ih0, ih1⟩ := rubrickref01_schedule.mono_l k; refine ⟨?_, ?_⟩
  ·intro y0 y1 y2
   unfold rubrickref01_schedule.l0
   repeat' first
   | (with_reducible exact ih0 _ _ _)
   | (with_reducible exact ih1 _ _)
   | (with_reducible exact LeO.refl _)
   | (with_reducible exact LeO.none _)
   | (with_reducible refine LeO.ite ?_ ?_)
   | (with_reducible refine LeO.bind ?_ (fun _ => ?_))
  ·intro y0 y1
   unfold rubrickref01_schedule.l1
   repeat' first
   | (with_reducible exact ih0 _ _ _)
   | (with_reducible exact ih1 _ _)
   | (with_reducible exact LeO.refl _)
   | (with_reducible exact LeO.none _)
   | (with_reducible refine LeO.ite ?_ ?_)
   | (with_reducible refine LeO.bind ?_ (fun _ => ?_))
theorem rubrickref01_schedule.mono : ∀ a0 k, LeO (rubrickref01_schedule.f k a0) (rubrickref01_schedule.f (k + 1) a0) := by
 intro a0 k
 obtain ⟨ih0, ih1⟩ := rubrickref01_schedule.mono_l k
 unfold rubrickref01_schedule.f
 repeat' first
   | (with_reducible exact ih0 _ _ _)
   | (with_reducible exact ih1 _ _)
   | (with_reducible exact LeO.refl _)
   | (with_reducible exact LeO.none _)
   | (with_reducible refine LeO.ite ?_ ?_)
   | (with_reducible refine LeO.bind ?_ (fun _ => ?_))
def rubrickref01_schedule.T5 : Bool × List (List Nat × List Nat) := (true, [([], []), ([], []), ([], []), ([1, 2], [1, 2]), ([3], [3]), ([4], [4]), ([5], [5]), ([], []), ([], []), ([8], [8]), ([7, 9], [7, 9]), ([10], [10]), ([11], [11]), ([12], [12]), ([6, 13], [6, 13]), ([], []), ([], []), ([16], [16]), ([15, 17], [15, 17]), ([18], [18]), ([19], [19]), ([20], [20]), ([14, 21], [14, 21]), ([], []), ([], []), ([24], [24]), ([23, 25], [23, 25]), ([26], [26]), ([27], [27]), ([22, 28], [22, 28]), ([29], [29]), ([0, 30], [0, 30]), ([31, 31, 0, 1, 2, 3, 4, 5, 6, 7, 8, 9, 10, 11, 12, 13, 14, 15, 16, 17, 18, 19, 20, 21, 22, 23, 24, 25, 26, 27, 28, 29, 30, 31], [0, 31])])
def rubrickref01_schedule.B5 : List Nat := [0, 0, 0, 6, 14, 30, 62, 0, 0, 256, 896, 1920, 3968, 8064, 16382, 0, 0, 65536, 229376, 491520, 1015808, 2064384, 4194302, 0, 0, 16777216, 58720256, 125829120, 260046848, 536870910, 1073741822, 2147483647, 4294967295]
theorem rubrickref01_schedule.tab5 : rtab .any (opsOf Tryd.f92 5) = rubrickref01_schedule.T5 := by kernel_rfl
theorem rubrickref01_schedule.bits5 : waitsOk rubrickref01_schedule.T5.2 rubrickref01_schedule.B5 = true := by kernel_rfl
def rubrickref01_schedule.T9 : Bool × List (List Nat × List Nat) := (true, [([], []), ([], []), ([1], [1]), ([0, 2], [0, 2]), ([3], [3]), ([4], [4]), ([], []), ([], []), ([7], [7]), ([6, 8], [6, 8]), ([9], [9]), ([10, 5], [10]), ([5, 11], [5, 11]), ([], []), ([], []), ([14], [14]), ([13, 15], [13, 15]), ([16], [16]), ([17], [17]), ([12, 18], [12, 18]), ([19, 11, 0, 1, 2, 3, 4, 5, 6, 7, 8, 9, 10, 11, 12, 13, 14, 15, 16, 17, 18, 19], [19])])
def rubrickref01_schedule.B9 : List Nat := [0, 0, 2, 7, 15, 31, 0, 0, 128, 448, 960, 2047, 4095, 0, 0, 16384, 57344, 122880, 253952, 524287, 1048575]
theorem rubrickref01_schedule.tab9 : rtab .any (opsOf Tryd.f92 9) = rubrickref01_schedule.T9 := by kernel_rfl
theorem rubrickref01_schedule.bits9 : waitsOk rubrickref01_schedule.T9.2 rubrickref01_schedule.B9 = true := by kernel_rfl
def rubrickref01_schedule.T10 : Bool × List (List Nat × List Nat) := (true, [([], []), ([], []), ([1], [1]), ([0, 2], [0, 2]), ([3], [3]), ([4], [4]), ([], []), ([], []), ([7], [7]), ([6, 8], [6, 8]), ([9], [9]), ([10, 5], [10]), ([5, 11], [5, 11]), ([], []), ([], []), ([14], [14]), ([13, 15], [13, 15]), ([16], [16]), ([17], [17]), ([12, 18], [12, 18]), ([19, 11, 0, 1, 2, 3, 4, 5, 6, 7, 8, 9, 10, 11, 12, 13, 14, 15, 16, 17, 18, 19], [19])])
def rubrickref01_schedule.B10 : List Nat := [0, 0, 2, 7, 15, 31, 0, 0, 128, 448, 960, 2047, 4095, 0, 0, 16384, 57344, 122880, 253952, 524287, 1048575]
theorem rubrickref01_schedule.tab10 : rtab .any (opsOf Tryd.f92 10) = rubrickref01_schedule.T10 := by kernel_rfl
theorem rubrickref01_schedule.bits10 : waitsOk rubrickref01_schedule.T10.2 rubrickref01_schedule.B10 = true := by kernel_rfl
def rubrickref01_schedule.T11 : Bool × List (List Nat × List Nat) := (true, [([], []), ([], []), ([], []), ([2], [2]), ([1, 3], [1, 3]), ([4], [4]), ([], []), ([5, 6], [5, 6]), ([], []), ([], []), ([9], [9]), ([8, 10], [8, 10]), ([11], [11]), ([7, 12], [7, 12]), ([], []), ([13, 14], [13, 14]), ([15], [15]), ([0, 16], [0, 16]), ([17, 17, 0, 1, 2, 3, 4, 5, 6, 7, 8, 9, 10, 11, 12, 13, 14, 15, 16, 17], [0, 1, 8, 17])])
def rubrickref01_schedule.B11 : List Nat := [0, 0, 0, 4, 14, 30, 0, 126, 0, 0, 512, 1792, 3840, 8190, 0, 32766, 65534, 131071, 262143]
theorem rubrickref01_schedule.tab11 : rtab .any (opsOf Tryd.f92 11) = rubrickref01_schedule.T11 := by kernel_rfl
theorem rubrickref01_schedule.bits11 : waitsOk rubrickref01_schedule.T11.2 rubrickref01_schedule.B11 = true := by kernel_rfl
set_option maxHeartbeats 8000000 in
set_option maxRecDepth 100000 in
theorem rubrickref01_schedule.calls (k : Nat) (A0 : Option Addr) (c0 : Nat) (l0 : List Int) (r : List Int) (w : World) (hr0 : Kd.C (Kd.int .u8) w A0 l0.length l0) (hc0 : l0.length ≤ c0) (h : rubrickref01_schedule.f k l0 = some r) :
  Calls Tryd.prog 92 #[.slice A0 l0.length c0] w fun e w' => ∃ v0_ : Value, e = .returned (v0_) ∧ Kd.R (Kd.int .u32) 100 w' w.heap.size (fun _ => True) v0_ r ∧ Below w.heap.size w w' := by
 have HR0 := zM hr0
 have HC0 := zM hc0
 clear hr0 hc0
 have HB := zM (Below.refl w.heap.size w)
 have H : (rubrickref01_schedule.l0 k l0 ([] : List Int) 0) = some r := h
 clear h
 have H' := zM H
 clear H
 go_enter Tryd.func92, Tryd.ntmps92
 go_wp2
 go_loopg [3, 4] k (fun kq v3 v4 w' => ∃ (x3_1 : List Int) (x4_1 : Int), v4 = .int .i64 x4_1 ∧ Aside0 (rubrickref01_schedule.l0 kq l0 x3_1 x4_1 = some r) ∧ Aside0 (kq ≤ k) ∧ Aside0 (Kd.R (Kd.int .u32) 100 w' w.heap.size (fun _ => True) v3 x3_1) ∧ Aside0 (Below w.heap.size w w'))
 case atStart => exact ⟨(([] : List Int)), (0), zz, H', ⟨Nat.le_refl _⟩, ⟨by first | exact Kd.R_nil _ _ _ _ _ | exact Kd.N_nil _ _ _ _ _ | exact Kd.V_nil _ _ _ _ _ | exact Kd.Q_nil _ _ _ _ _ | exact Kd.S_nil _ _ _ _ _⟩, ⟨zb HB.out⟩⟩
 case round =>
  clear H'; obtain ⟨x3_1, x4_1, rfl, HA, HK1, HO_3, HB⟩ := hrel
  cases gk with
  | zero => exact absurd HA.out (by simp [rubrickref01_schedule.l0])
  | succ k1 =>
   have H := HA.out; clear HA; simp only [rubrickref01_schedule.l0] at H
   by_cases c2 : x4_1 < 64
   ·rw [if_pos c2] at H
    have c2b0 : decide (x4_1 < 64) = true := decide_eq_true c2; clear c2
    by_cases c3 : 0 ≤ x4_1
    ·rw [if_pos c3] at H
     have c3b0 : decide (0 ≤ x4_1) = true := decide_eq_true c3; clear c3
     by_cases c4 : x4_1 < (l0.length : Int)
     ·rw [if_pos c4] at H
      have c4b0 : decide (x4_1 < (l0.length : Int)) = true := decide_eq_true c4; clear c4; obtain ⟨ji5, hji5⟩ : ∃ j_ : Int, (wrap64 (x4_1 + 1)) = j_ := ⟨_, rfl⟩; (replace H : (if 0 ≤ (ji5) then (if (ji5) < (l0.length : Int) then (if 0 ≤ (wrap64 (x4_1 + 2)) then (if (wrap64 (x4_1 + 2)) < (l0.length : Int) then (if 0 ≤ (wrap64 (x4_1 + 3)) then (if (wrap64 (x4_1 + 3)) < (l0.length : Int) then (if x3_1.length < 35184372088832 then (rubrickref01_schedule.l0 k1 l0 (x3_1 ++ [(((((((((rd l0 x4_1) % 4294967296) * 16777216) % 4294967296) + ((((rd l0 (ji5)) % 4294967296) * 65536) % 4294967296)) % 4294967296) + ((((rd l0 (wrap64 (x4_1 + 2))) % 4294967296) * 256) % 4294967296)) % 4294967296) + ((rd l0 (wrap64 (x4_1 + 3))) % 4294967296)) % 4294967296]) (wrap64 (x4_1 + 4))) else (none)) else (none)) else (none)) else (none)) else (none)) else (none)) else (none)) = some r := by first | (rw [hji5] at H; exact H) | (simp only [hji5] at H ⊢; exact H)); have hji5w : (IntKind.i64.wrap (x4_1 + 1)) = ji5 := (i64_w _).trans hji5
      by_cases c6 : 0 ≤ (ji5)
      ·rw [if_pos c6] at H
       have c6b0 : decide (0 ≤ (ji5)) = true := decide_eq_true c6; clear c6
       by_cases c7 : (ji5) < (l0.length : Int)
       ·rw [if_pos c7] at H
        have c7b0 : decide ((ji5) < (l0.length : Int)) = true := decide_eq_true c7; clear c7; obtain ⟨ji8, hji8⟩ : ∃ j_ : Int, (wrap64 (x4_1 + 2)) = j_ := ⟨_, rfl⟩; (replace H : (if 0 ≤ (ji8) then (if (ji8) < (l0.length : Int) then (if 0 ≤ (wrap64 (x4_1 + 3)) then (if (wrap64 (x4_1 + 3)) < (l0.length : Int) then (if x3_1.length < 35184372088832 then (rubrickref01_schedule.l0 k1 l0 (x3_1 ++ [(((((((((rd l0 x4_1) % 4294967296) * 16777216) % 4294967296) + ((((rd l0 (ji5)) % 4294967296) * 65536) % 4294967296)) % 4294967296) + ((((rd l0 (ji8)) % 4294967296) * 256) % 4294967296)) % 4294967296) + ((rd l0 (wrap64 (x4_1 + 3))) % 4294967296)) % 4294967296]) (wrap64 (x4_1 + 4))) else (none)) else (none)) else (none)) else (none)) else (none)) = some r := by first | (rw [hji8] at H; exact H) | (simp only [hji8] at H ⊢; exact H)); have hji8w : (IntKind.i64.wrap (x4_1 + 2)) = ji8 := (i64_w _).trans hji8
        by_cases c9 : 0 ≤ (ji8)
        ·rw [if_pos c9] at H
         have c9b0 : decide (0 ≤ (ji8)) = true := decide_eq_true c9; clear c9
         by_cases c10 : (ji8) < (l0.length : Int)
         ·rw [if_pos c10] at H
          have c10b0 : decide ((ji8) < (l0.length : Int)) = true := decide_eq_true c10; clear c10; obtain ⟨ji11, hji11⟩ : ∃ j_ : Int, (wrap64 (x4_1 + 3)) = j_ := ⟨_, rfl⟩; (replace H : (if 0 ≤ (ji11) then (if (ji11) < (l0.length : Int) then (if x3_1.length < 35184372088832 then (rubrickref01_schedule.l0 k1 l0 (x3_1 ++ [(((((((((rd l0 x4_1) % 4294967296) * 16777216) % 4294967296) + ((((rd l0 (ji5)) % 4294967296) * 65536) % 4294967296)) % 4294967296) + ((((rd l0 (ji8)) % 4294967296) * 256) % 4294967296)) % 4294967296) + ((rd l0 (ji11)) % 4294967296)) % 4294967296]) (wrap64 (x4_1 + 4))) else (none)) else (none)) else (none)) = some r := by first | (rw [hji11] at H; exact H) | (simp only [hji11] at H ⊢; exact H)); have hji11w : (IntKind.i64.wrap (x4_1 + 3)) = ji11 := (i64_w _).trans hji11
          by_cases c12 : 0 ≤ (ji11)
          ·rw [if_pos c12] at H
           have c12b0 : decide (0 ≤ (ji11)) = true := decide_eq_true c12; clear c12
           by_cases c13 : (ji11) < (l0.length : Int)
           ·rw [if_pos c13] at H
            have c13b0 : decide ((ji11) < (l0.length : Int)) = true := decide_eq_true c13; clear c13
            by_cases c14 : x3_1.length < 35184372088832
            ·rw [if_pos c14] at H
             have LMc14 := zM c14; clear c14; obtain ⟨y126, hy126⟩ : ∃ y_ : List Int, y_ = (x3_1 ++ [(((((((((rd l0 x4_1) % 4294967296) * 16777216) % 4294967296) + ((((rd l0 (ji5)) % 4294967296) * 65536) % 4294967296)) % 4294967296) + ((((rd l0 (ji8)) % 4294967296) * 256) % 4294967296)) % 4294967296) + ((rd l0 (ji11)) % 4294967296)) % 4294967296]) := ⟨_, rfl⟩; replace H : (rubrickref01_schedule.l0 k1 l0 y126 (wrap64 (x4_1 + 4))) = some r := zh H hy126; have Ny126 := zM hy126; clear hy126; have H' := zM H; clear H; (try go_wp2); replace HO_3 := zM (Kd.R_drew HO_3.out); replace HB := zM (below_drew1 HB.out); have p122 : 0 ≤ (x4_1 : Int) := zd; have q122 : x4_1 < (l0.length : Int) := zd; obtain ⟨ad122, e122, hx122_0⟩ := Kd.at_int HR0.out x4_1 p122 q122; have hw122_0 := hx122_0; cases e122; replace hx122_0 := zw HB hx122_0; replace p122 := eq_true p122; replace q122 := eq_true q122; have p123 : 0 ≤ ((ji5) : Int) := zd; have q123 : (ji5) < (l0.length : Int) := zd; obtain ⟨ad123, e123, hx123_0⟩ := Kd.at_int HR0.out (ji5) p123 q123; have hw123_0 := hx123_0; (obtain rfl : ad122 = ad123 := (by injection e123)); replace hx123_0 := zw HB hx123_0; replace p123 := eq_true p123; replace q123 := eq_true q123; have p124 : 0 ≤ ((ji8) : Int) := zd; have q124 : (ji8) < (l0.length : Int) := zd; obtain ⟨ad124, e124, hx124_0⟩ := Kd.at_int HR0.out (ji8) p124 q124; have hw124_0 := hx124_0; (obtain rfl : ad122 = ad124 := (by injection e124)); replace hx124_0 := zw HB hx124_0; replace p124 := eq_true p124; replace q124 := eq_true q124; have p125 : 0 ≤ ((ji11) : Int) := zd; have q125 : (ji11) < (l0.length : Int) := zd; obtain ⟨ad125, e125, hx125_0⟩ := Kd.at_int HR0.out (ji11) p125 q125; have hw125_0 := hx125_0; (obtain rfl : ad122 = ad125 := (by injection e125)); replace hx125_0 := zw HB hx125_0; replace p125 := eq_true p125; replace q125 := eq_true q125; (refine start_ (n := 33) (S := fun w' => w'.cell? (ad122.add (x4_1).toNat) = some (.int .u8 (rd l0 x4_1)) ∧ w'.cell? (ad122.add ((ji5)).toNat) = some (.int .u8 (rd l0 (ji5))) ∧ w'.cell? (ad122.add ((ji8)).toNat) = some (.int .u8 (rd l0 (ji8))) ∧ w'.cell? (ad122.add ((ji11)).toNat) = some (.int .u8 (rd l0 (ji11)))) (ds := []) #[false, false, false, false, false, false, false, false, false, false, false, false, false, false, false, false, false, false, false, false, false, false, false, false, false, false, false, false, false, false, false, false, false] (by kernel_rfl) rfl rfl ⟨(zw HB hw122_0), (zw HB hw123_0), (zw HB hw124_0), (zw HB hw125_0)⟩ (fun hHeld => ?_); refine with_tabW rubrickref01_schedule.tab5 rubrickref01_schedule.bits5 (fun HT_ HW_ => ?_)); (generalize wr.drew = w15 at HO_3 HB hx122_0 hx123_0 hx124_0 hx125_0 hHeld ⊢); (refine HBulk.bulkT (fuel := 3) HT_.out HW_.out [(0, some 12, false), (1, some 13, false), (2, some 14, false), (3, some 15, false), (7, some 19, false), (8, some 20, false), (9, some 21, false), (10, some 22, false), (15, some 27, false), (16, some 28, false), (17, some 29, false), (18, some 30, false), (23, some 35, false), (24, some 36, false), (25, some 37, false), (26, some 38, false), (4, some 16, true), (5, some 17, false), (6, some 18, false), (11, some 23, true), (12, some 24, false), (13, some 25, false), (14, some 26, false), (19, some 31, true), (20, some 32, false), (21, some 33, false), (22, some 34, false), (27, some 39, true), (28, some 40, false), (29, some 41, false)] #[true, true, true, true, true, true, true, true, true, true, true, true, true, true, true, true, true, true, true, true, true, true, true, true, true, true, true, true, true, true, false, false, false] (a' := ?_) (by kernel_rfl) rfl hHeld ?_ ?_); rotate_left
             ·repeat
               (refine HBulk.RunsM.cons (v := ?_) (a1 := ?_) rfl rfl (fun _ _ _ h => h) (by rfl) ?_ ?_ ?_); rotate_left
               ·intro w' hS_; (try (obtain ⟨s0, s1, s2, s3⟩ := hS_ rfl))
                go_simp; (with_reducible rfl)
               rotate_left
               ·simp only [Act.put, zl, i64_w, i32_w]
                rfl
              exact HBulk.RunsM.nil
             (refine one_ (i := 30) (N := some 42) #[true, true, true, true, true, true, true, true, true, true, true, true, true, true, true, true, true, true, true, true, true, true, true, true, true, true, true, true, true, true, true, false, false] rfl rfl (one_of HT_.out (by kernel_rfl)) (by decide) (fun K hK => ?_)); (refine value_ (w1 := ?_) (v := ?_) (by rfl) rfl ?_ ?_); rotate_left 2
             ·go_simp
              constructor
              ·rfl
              ·rfl
             (refine hK.out _ _ ⟨(World.cell?_alloc_lt _ _ _ (World.block_lt_of_cell? _ _ ((zw HB hw122_0)))).trans ((zw HB hw122_0)), (World.cell?_alloc_lt _ _ _ (World.block_lt_of_cell? _ _ ((zw HB hw123_0)))).trans ((zw HB hw123_0)), (World.cell?_alloc_lt _ _ _ (World.block_lt_of_cell? _ _ ((zw HB hw124_0)))).trans ((zw HB hw124_0)), (World.cell?_alloc_lt _ _ _ (World.block_lt_of_cell? _ _ ((zw HB hw125_0)))).trans ((zw HB hw125_0))⟩ (fun hHeld => ?_)); clear hK K; refine norm_ (a' := ?_) ?_ ?_; rotate_left
             ·show Act.put _ (some 42) _ = _
              simp only [Act.put, zl, i64_w, i32_w]; rfl
             (refine one_ (i := 31) (N := some 43) #[true, true, true, true, true, true, true, true, true, true, true, true, true, true, true, true, true, true, true, true, true, true, true, true, true, true, true, true, true, true, true, true, false] rfl rfl (one_of HT_.out (by kernel_rfl)) (by decide) (fun K hK => ?_)); (refine Kd.R_append_step (Kd.int .u32) (w0 := w) w.heap.size (by rfl) (.tmp 12) (.tmp 42) 106 100 (.int .u32 0) 4 rfl Tryd.underlying106 info100 rfl (by decide) (by omega) u3 x3_1 ((((((((((rd l0 x4_1) % 4294967296) * 16777216) % 4294967296) + ((((rd l0 (ji5)) % 4294967296) * 65536) % 4294967296)) % 4294967296) + ((((rd l0 (ji8)) % 4294967296) * 256) % 4294967296)) % 4294967296) + ((rd l0 (ji11)) % 4294967296)) % 4294967296) [.int .u32 ((((((((((rd l0 x4_1) % 4294967296) * 16777216) % 4294967296) + ((((rd l0 (ji5)) % 4294967296) * 65536) % 4294967296)) % 4294967296) + ((((rd l0 (ji8)) % 4294967296) * 256) % 4294967296)) % 4294967296) + ((rd l0 (ji11)) % 4294967296)) % 4294967296)] (fun _ => True) (fun _ => False) rfl rfl ?aP (fun _ hk => hk.elim) ?aF ?aO ?aB ?aS ?aL ?_); (case aP => exact rfl); (case aB => exact (zb HB.out)); (case aF => exact (fun _ _ => trivial)); (case aO => exact (zr HO_3.out)); (case aS => exact (below_size (zb HB.out))); (case aL => have := LMc14.out; omega); intro v127 w16 ho hb hg hat; rw [← Ny126.out] at ho; replace HB := zM (hb); have HO128 := zM (ho); clear HO_3 ho hb hg hat; (refine hK.out _ _ ⟨(zw HB hw122_0), (zw HB hw123_0), (zw HB hw124_0), (zw HB hw125_0)⟩ (fun hHeld => ?_)); clear hK K; refine norm_ (a' := ?_) ?_ ?_; rotate_left
             ·show Act.put _ (some 43) _ = _
              simp only [Act.put, zl, i64_w, i32_w]; rfl
             (refine pure_ (i := 32) (N := some 3) (v := ?_) (a' := ?_) #[true, true, true, true, true, true, true, true, true, true, true, true, true, true, true, true, true, true, true, true, true, true, true, true, true, true, true, true, true, true, true, true, true] rfl rfl (any_of HT_.out (by kernel_rfl)) (fun _ _ _ h => h) (Or.inl ⟨by rfl, ?_⟩) ?_ ?_); rotate_left
             ·intro w'
              go_simp; (with_reducible rfl)
             rotate_left
             ·simp only [Act.put, zl, i64_w, i32_w]
              rfl
             (refine done_ (done_of HT_.out (by kernel_rfl)) ?_); (try go_wp2); go_roundg k1
             case measure => have := HK1.out; omega
             case rel => exact ⟨(y126), (wrap64 (x4_1 + 4)), zz, H', ⟨by have := HK1.out; omega⟩, ⟨zr HO128.out⟩, ⟨zb HB.out⟩⟩
            ·rw [if_neg c14] at H
             exact absurd H (by simp)
           ·rw [if_neg c13] at H
            exact absurd H (by simp)
          ·rw [if_neg c12] at H
           exact absurd H (by simp)
         ·rw [if_neg c10] at H
          exact absurd H (by simp)
        ·rw [if_neg c9] at H
         exact absurd H (by simp)
       ·rw [if_neg c7] at H
        exact absurd H (by simp)
      ·rw [if_neg c6] at H
       exact absurd H (by simp)
     ·rw [if_neg c4] at H
      exact absurd H (by simp)
    ·rw [if_neg c3] at H
     exact absurd H (by simp)
   ·rw [if_neg c2] at H
    have c2b0 : decide (x4_1 < 64) = false := decide_eq_false c2; clear c2; have H' := zM H; clear H; go_wp2; (go_loopg [3, 5] k1 (fun kq v3 v5 w' => ∃ (x3_2 : List Int) (x5_2 : Int), v5 = .int .i64 x5_2 ∧ Aside0 (rubrickref01_schedule.l1 kq x3_2 x5_2 = some r) ∧ Aside0 (kq ≤ k1) ∧ Aside0 (Kd.R (Kd.int .u32) 100 w' w.heap.size (fun _ => True) v3 x3_2) ∧ Aside0 (Below w.heap.size w w')))
    case atStart => exact ⟨(x3_1), (16), zz, H', ⟨Nat.le_refl _⟩, ⟨zr HO_3.out⟩, ⟨zb HB.out⟩⟩
    case round =>
     clear H'; (try clear c1); (try clear p1); (try clear q1); (try clear hx1); (try clear c2); (try clear c2b0); (try clear p2); (try clear c3); (try clear c3b0); (try clear c4); (try clear c4b0); (try clear c6); (try clear c6b0); (try clear p6); (try clear c7); (try clear c7b0); (try clear c9); (try clear c9b0); (try clear c10); (try clear c10b0); (try clear c12); (try clear c12b0); (try clear p12); (try clear q12); (try clear hx12); (try clear c13); (try clear c13b0); (try clear c14); (try clear hx122_0); (try clear hx123_0); (try clear hx124_0); (try clear hx125_0); (try clear p122); (try clear p123); (try clear p124); (try clear p125); (try clear q122); (try clear q123); (try clear q124); (try clear q125); obtain ⟨x3_2, x5_2, rfl, HA, HK2, HO_3, HB⟩ := hrel
     cases gk with
     | zero => exact absurd HA.out (by simp [rubrickref01_schedule.l1])
     | succ k2 =>
      have H := HA.out; clear HA; simp only [rubrickref01_schedule.l1] at H
      by_cases c17 : x5_2 < 64
      ·rw [if_pos c17] at H
       have c17b0 : decide (x5_2 < 64) = true := decide_eq_true c17; clear c17; obtain ⟨ji18, hji18⟩ : ∃ j_ : Int, (wrap64 (x5_2 - 15)) = j_ := ⟨_, rfl⟩; (replace H : (if 0 ≤ (ji18) then (if (ji18) < (x3_2.length : Int) then ((rubrickref01_right.f (rd x3_2 (ji18)) 7).bind fun t130 => ((rubrickref01_right.f (rd x3_2 (ji18)) 18).bind fun t132 => (if 0 ≤ (wrap64 (x5_2 - 2)) then (if (wrap64 (x5_2 - 2)) < (x3_2.length : Int) then ((rubrickref01_right.f (rd x3_2 (wrap64 (x5_2 - 2))) 17).bind fun t135 => ((rubrickref01_right.f (rd x3_2 (wrap64 (x5_2 - 2))) 19).bind fun t137 => (if 0 ≤ (wrap64 (x5_2 - 16)) then (if (wrap64 (x5_2 - 16)) < (x3_2.length : Int) then (if 0 ≤ (wrap64 (x5_2 - 7)) then (if (wrap64 (x5_2 - 7)) < (x3_2.length : Int) then (if x3_2.length < 35184372088832 then (rubrickref01_schedule.l1 k2 (x3_2 ++ [((((((rd x3_2 (wrap64 (x5_2 - 16))) + (Go.bits .xor .u32 (Go.bits .xor .u32 t130 t132) ((rd x3_2 (ji18)) / 8))) % 4294967296) + (rd x3_2 (wrap64 (x5_2 - 7)))) % 4294967296) + (Go.bits .xor .u32 (Go.bits .xor .u32 t135 t137) ((rd x3_2 (wrap64 (x5_2 - 2))) / 1024))) % 4294967296]) (wrap64 (x5_2 + 1))) else (none)) else (none)) else (none)) else (none)) else (none)))) else (none)) else (none)))) else (none)) else (none)) = some r := by first | (rw [hji18] at H; exact H) | (simp only [hji18] at H ⊢; exact H)); have hji18w : (IntKind.i64.wrap (x5_2 - 15)) = ji18 := (i64_w _).trans hji18
       by_cases c19 : 0 ≤ (ji18)
       ·rw [if_pos c19] at H
        have c19b0 : decide (0 ≤ (ji18)) = true := decide_eq_true c19; clear c19
        by_cases c20 : (ji18) < (x3_2.length : Int)
        ·rw [if_pos c20] at H
         have c20b0 : decide ((ji18) < (x3_2.length : Int)) = true := decide_eq_true c20; clear c20; replace H := zB H; obtain ⟨t130, A210, H⟩ := H; (replace H : ((rubrickref01_right.f (rd x3_2 (ji18)) 18).bind fun t132 => (if 0 ≤ (wrap64 (x5_2 - 2)) then (if (wrap64 (x5_2 - 2)) < (x3_2.length : Int) then ((rubrickref01_right.f (rd x3_2 (wrap64 (x5_2 - 2))) 17).bind fun t135 => ((rubrickref01_right.f (rd x3_2 (wrap64 (x5_2 - 2))) 19).bind fun t137 => (if 0 ≤ (wrap64 (x5_2 - 16)) then (if (wrap64 (x5_2 - 16)) < (x3_2.length : Int) then (if 0 ≤ (wrap64 (x5_2 - 7)) then (if (wrap64 (x5_2 - 7)) < (x3_2.length : Int) then (if x3_2.length < 35184372088832 then (rubrickref01_schedule.l1 k2 (x3_2 ++ [((((((rd x3_2 (wrap64 (x5_2 - 16))) + (Go.bits .xor .u32 (Go.bits .xor .u32 t130 t132) ((rd x3_2 (ji18)) / 8))) % 4294967296) + (rd x3_2 (wrap64 (x5_2 - 7)))) % 4294967296) + (Go.bits .xor .u32 (Go.bits .xor .u32 t135 t137) ((rd x3_2 (wrap64 (x5_2 - 2))) / 1024))) % 4294967296]) (wrap64 (x5_2 + 1))) else (none)) else (none)) else (none)) else (none)) else (none)))) else (none)) else (none))) = some r := H); have A21 := zM A210; clear A210; replace H := zB H; obtain ⟨t132, A220, H⟩ := H; (replace H : (if 0 ≤ (wrap64 (x5_2 - 2)) then (if (wrap64 (x5_2 - 2)) < (x3_2.length : Int) then ((rubrickref01_right.f (rd x3_2 (wrap64 (x5_2 - 2))) 17).bind fun t135 => ((rubrickref01_right.f (rd x3_2 (wrap64 (x5_2 - 2))) 19).bind fun t137 => (if 0 ≤ (wrap64 (x5_2 - 16)) then (if (wrap64 (x5_2 - 16)) < (x3_2.length : Int) then (if 0 ≤ (wrap64 (x5_2 - 7)) then (if (wrap64 (x5_2 - 7)) < (x3_2.length : Int) then (if x3_2.length < 35184372088832 then (rubrickref01_schedule.l1 k2 (x3_2 ++ [((((((rd x3_2 (wrap64 (x5_2 - 16))) + (Go.bits .xor .u32 (Go.bits .xor .u32 t130 t132) ((rd x3_2 (ji18)) / 8))) % 4294967296) + (rd x3_2 (wrap64 (x5_2 - 7)))) % 4294967296) + (Go.bits .xor .u32 (Go.bits .xor .u32 t135 t137) ((rd x3_2 (wrap64 (x5_2 - 2))) / 1024))) % 4294967296]) (wrap64 (x5_2 + 1))) else (none)) else (none)) else (none)) else (none)) else (none)))) else (none)) else (none)) = some r := H); have A22 := zM A220; clear A220; obtain ⟨ji23, hji23⟩ : ∃ j_ : Int, (wrap64 (x5_2 - 2)) = j_ := ⟨_, rfl⟩; (replace H : (if 0 ≤ (ji23) then (if (ji23) < (x3_2.length : Int) then ((rubrickref01_right.f (rd x3_2 (ji23)) 17).bind fun t135 => ((rubrickref01_right.f (rd x3_2 (ji23)) 19).bind fun t137 => (if 0 ≤ (wrap64 (x5_2 - 16)) then (if (wrap64 (x5_2 - 16)) < (x3_2.length : Int) then (if 0 ≤ (wrap64 (x5_2 - 7)) then (if (wrap64 (x5_2 - 7)) < (x3_2.length : Int) then (if x3_2.length < 35184372088832 then (rubrickref01_schedule.l1 k2 (x3_2 ++ [((((((rd x3_2 (wrap64 (x5_2 - 16))) + (Go.bits .xor .u32 (Go.bits .xor .u32 t130 t132) ((rd x3_2 (ji18)) / 8))) % 4294967296) + (rd x3_2 (wrap64 (x5_2 - 7)))) % 4294967296) + (Go.bits .xor .u32 (Go.bits .xor .u32 t135 t137) ((rd x3_2 (ji23)) / 1024))) % 4294967296]) (wrap64 (x5_2 + 1))) else (none)) else (none)) else (none)) else (none)) else (none)))) else (none)) else (none)) = some r := by first | (rw [hji23] at H; exact H) | (simp only [hji23] at H ⊢; exact H)); (try rw [hji23] at A21); (try rw [hji23] at A22); have hji23w : (IntKind.i64.wrap (x5_2 - 2)) = ji23 := (i64_w _).trans hji23
         by_cases c24 : 0 ≤ (ji23)
         ·rw [if_pos c24] at H
          have c24b0 : decide (0 ≤ (ji23)) = true := decide_eq_true c24; clear c24
          by_cases c25 : (ji23) < (x3_2.length : Int)
          ·rw [if_pos c25] at H
           have c25b0 : decide ((ji23) < (x3_2.length : Int)) = true := decide_eq_true c25; clear c25; replace H := zB H; obtain ⟨t135, A260, H⟩ := H; (replace H : ((rubrickref01_right.f (rd x3_2 (ji23)) 19).bind fun t137 => (if 0 ≤ (wrap64 (x5_2 - 16)) then (if (wrap64 (x5_2 - 16)) < (x3_2.length : Int) then (if 0 ≤ (wrap64 (x5_2 - 7)) then (if (wrap64 (x5_2 - 7)) < (x3_2.length : Int) then (if x3_2.length < 35184372088832 then (rubrickref01_schedule.l1 k2 (x3_2 ++ [((((((rd x3_2 (wrap64 (x5_2 - 16))) + (Go.bits .xor .u32 (Go.bits .xor .u32 t130 t132) ((rd x3_2 (ji18)) / 8))) % 4294967296) + (rd x3_2 (wrap64 (x5_2 - 7)))) % 4294967296) + (Go.bits .xor .u32 (Go.bits .xor .u32 t135 t137) ((rd x3_2 (ji23)) / 1024))) % 4294967296]) (wrap64 (x5_2 + 1))) else (none)) else (none)) else (none)) else (none)) else (none))) = some r := H); have A26 := zM A260; clear A260; replace H := zB H; obtain ⟨t137, A270, H⟩ := H; (replace H : (if 0 ≤ (wrap64 (x5_2 - 16)) then (if (wrap64 (x5_2 - 16)) < (x3_2.length : Int) then (if 0 ≤ (wrap64 (x5_2 - 7)) then (if (wrap64 (x5_2 - 7)) < (x3_2.length : Int) then (if x3_2.length < 35184372088832 then (rubrickref01_schedule.l1 k2 (x3_2 ++ [((((((rd x3_2 (wrap64 (x5_2 - 16))) + (Go.bits .xor .u32 (Go.bits .xor .u32 t130 t132) ((rd x3_2 (ji18)) / 8))) % 4294967296) + (rd x3_2 (wrap64 (x5_2 - 7)))) % 4294967296) + (Go.bits .xor .u32 (Go.bits .xor .u32 t135 t137) ((rd x3_2 (ji23)) / 1024))) % 4294967296]) (wrap64 (x5_2 + 1))) else (none)) else (none)) else (none)) else (none)) else (none)) = some r := H); have A27 := zM A270; clear A270; obtain ⟨ji28, hji28⟩ : ∃ j_ : Int, (wrap64 (x5_2 - 16)) = j_ := ⟨_, rfl⟩; (replace H : (if 0 ≤ (ji28) then (if (ji28) < (x3_2.length : Int) then (if 0 ≤ (wrap64 (x5_2 - 7)) then (if (wrap64 (x5_2 - 7)) < (x3_2.length : Int) then (if x3_2.length < 35184372088832 then (rubrickref01_schedule.l1 k2 (x3_2 ++ [((((((rd x3_2 (ji28)) + (Go.bits .xor .u32 (Go.bits .xor .u32 t130 t132) ((rd x3_2 (ji18)) / 8))) % 4294967296) + (rd x3_2 (wrap64 (x5_2 - 7)))) % 4294967296) + (Go.bits .xor .u32 (Go.bits .xor .u32 t135 t137) ((rd x3_2 (ji23)) / 1024))) % 4294967296]) (wrap64 (x5_2 + 1))) else (none)) else (none)) else (none)) else (none)) else (none)) = some r := by first | (rw [hji28] at H; exact H) | (simp only [hji28] at H ⊢; exact H)); (try rw [hji28] at A21); (try rw [hji28] at A22); (try rw [hji28] at A26); (try rw [hji28] at A27); have hji28w : (IntKind.i64.wrap (x5_2 - 16)) = ji28 := (i64_w _).trans hji28
           by_cases c29 : 0 ≤ (ji28)
           ·rw [if_pos c29] at H
            have c29b0 : decide (0 ≤ (ji28)) = true := decide_eq_true c29; clear c29
            by_cases c30 : (ji28) < (x3_2.length : Int)
            ·rw [if_pos c30] at H
             have c30b0 : decide ((ji28) < (x3_2.length : Int)) = true := decide_eq_true c30; clear c30; obtain ⟨ji31, hji31⟩ : ∃ j_ : Int, (wrap64 (x5_2 - 7)) = j_ := ⟨_, rfl⟩; (replace H : (if 0 ≤ (ji31) then (if (ji31) < (x3_2.length : Int) then (if x3_2.length < 35184372088832 then (rubrickref01_schedule.l1 k2 (x3_2 ++ [((((((rd x3_2 (ji28)) + (Go.bits .xor .u32 (Go.bits .xor .u32 t130 t132) ((rd x3_2 (ji18)) / 8))) % 4294967296) + (rd x3_2 (ji31))) % 4294967296) + (Go.bits .xor .u32 (Go.bits .xor .u32 t135 t137) ((rd x3_2 (ji23)) / 1024))) % 4294967296]) (wrap64 (x5_2 + 1))) else (none)) else (none)) else (none)) = some r := by first | (rw [hji31] at H; exact H) | (simp only [hji31] at H ⊢; exact H)); (try rw [hji31] at A21); (try rw [hji31] at A22); (try rw [hji31] at A26); (try rw [hji31] at A27); have hji31w : (IntKind.i64.wrap (x5_2 - 7)) = ji31 := (i64_w _).trans hji31
             by_cases c32 : 0 ≤ (ji31)
             ·rw [if_pos c32] at H
              have c32b0 : decide (0 ≤ (ji31)) = true := decide_eq_true c32; clear c32
              by_cases c33 : (ji31) < (x3_2.length : Int)
              ·rw [if_pos c33] at H
               have c33b0 : decide ((ji31) < (x3_2.length : Int)) = true := decide_eq_true c33; clear c33
               by_cases c34 : x3_2.length < 35184372088832
               ·rw [if_pos c34] at H
                have LMc34 := zM c34; clear c34; obtain ⟨y141, hy141⟩ : ∃ y_ : List Int, y_ = (x3_2 ++ [((((((rd x3_2 (ji28)) + (Go.bits .xor .u32 (Go.bits .xor .u32 t130 t132) ((rd x3_2 (ji18)) / 8))) % 4294967296) + (rd x3_2 (ji31))) % 4294967296) + (Go.bits .xor .u32 (Go.bits .xor .u32 t135 t137) ((rd x3_2 (ji23)) / 1024))) % 4294967296]) := ⟨_, rfl⟩; replace H : (rubrickref01_schedule.l1 k2 y141 (wrap64 (x5_2 + 1))) = some r := zh H hy141; have Ny141 := zM hy141; clear hy141; have H' := zM H; clear H; (try go_wp2); replace HO_3 := zM (Kd.R_drew HO_3.out); replace HB := zM (below_drew1 HB.out); obtain ⟨Ao36, co36, eo36⟩ := Kd.R_slice HO_3.out; (first | subst eo36 | (injection eo36 with f1_ f2_ f3_; have f4_ := f1_.symm; have f5_ := f3_.symm; clear f1_ f2_ f3_; subst f4_; subst f5_)); have p129 : 0 ≤ ((ji18) : Int) := zd; have q129 : (ji18) < (x3_2.length : Int) := zd; obtain ⟨ad129, e129, hx129_0⟩ := Kd.at_int (Kd.R_reads' HO_3.out).2.2 (ji18) p129 q129; cases e129; replace p129 := eq_true p129; replace q129 := eq_true q129; have p131 : 0 ≤ ((ji18) : Int) := zd; have q131 : (ji18) < (x3_2.length : Int) := zd; obtain ⟨ad131, e131, hx131_0⟩ := Kd.at_int (Kd.R_reads' HO_3.out).2.2 (ji18) p131 q131; (obtain rfl : ad129 = ad131 := (by injection e131)); replace p131 := eq_true p131; replace q131 := eq_true q131; have p133 : 0 ≤ ((ji18) : Int) := zd; have q133 : (ji18) < (x3_2.length : Int) := zd; obtain ⟨ad133, e133, hx133_0⟩ := Kd.at_int (Kd.R_reads' HO_3.out).2.2 (ji18) p133 q133; (obtain rfl : ad129 = ad133 := (by injection e133)); replace p133 := eq_true p133; replace q133 := eq_true q133; (refine start_ (n := 21) (S := fun w' => w'.cell? (ad129.add ((ji18)).toNat) = some (.int .u32 (rd x3_2 (ji18))) ∧ w'.cell? (ad129.add ((ji18)).toNat) = some (.int .u32 (rd x3_2 (ji18))) ∧ w'.cell? (ad129.add ((ji18)).toNat) = some (.int .u32 (rd x3_2 (ji18)))) (ds := []) #[false, false, false, false, false, false, false, false, false, false, false, false, false, false, false, false, false, false, false, false, false] (by kernel_rfl) rfl rfl ⟨hx129_0, hx131_0, hx133_0⟩ (fun hHeld => ?_); refine with_tabW rubrickref01_schedule.tab9 rubrickref01_schedule.bits9 (fun HT_ HW_ => ?_)); (generalize wr.drew = w35 at HO_3 HB hx129_0 hx131_0 hx133_0 hHeld ⊢); (refine HBulk.bulkT (fuel := 5) HT_.out HW_.out [(0, some 48, false), (1, some 49, false), (2, some 50, false), (3, some 51, false), (6, some 54, false), (7, some 55, false), (8, some 56, false), (9, some 57, false), (13, some 61, false), (14, some 62, false), (15, some 63, false), (16, some 64, false), (4, some 52, true), (10, some 58, true), (17, some 65, true), (18, some 66, false)] #[true, true, true, true, true, false, true, true, true, true, true, false, false, true, true, true, true, true, true, false, false] (a' := ?_) (by kernel_rfl) rfl hHeld ?_ ?_); rotate_left
                ·repeat
                  (refine HBulk.RunsM.cons (v := ?_) (a1 := ?_) rfl rfl (fun _ _ _ h => h) (by rfl) ?_ ?_ ?_); rotate_left
                  ·intro w' hS_; (try (obtain ⟨s0, s1, s2⟩ := hS_ rfl))
                   go_simp; (with_reducible rfl)
                  rotate_left
                  ·simp only [Act.put, zl, i64_w, i32_w]
                   rfl
                 exact HBulk.RunsM.nil
                (refine one_ (i := 5) (N := some 53) #[true, true, true, true, true, true, true, true, true, true, true, false, false, true, true, true, true, true, true, false, false] rfl rfl (one_of HT_.out (by kernel_rfl)) (by decide) (fun K hK => ?_)); (refine goes_ Tryd.func94 (by kernel_rfl) rfl #[.int .u32 (rd x3_2 (ji18)), .int .i64 7] (by rfl) rfl rfl (by (try simp only [List.map_toArray, List.map_cons, List.map_nil]); first | done | (simp only [hji18]; rfl) | rfl | (simp only [List.length_drop, List.length_take]; rfl)) ?_); (with_reducible refine (rubrickref01_right.calls (rd x3_2 (ji18)) 7 t130 _ A21.out).mono ?_); rintro e w' ⟨rfl, ⟨nd, rfl⟩⟩; refine ⟨_, rfl, ?_⟩; (refine hK.out _ _ ⟨hHeld.1, hHeld.2.1, hHeld.2.2⟩ (fun hHeld => ?_)); clear hK K; refine norm_ (a' := ?_) ?_ ?_; rotate_left
                ·show Act.put _ (some 53) _ = _
                 simp only [Act.put, zl, i64_w, i32_w]; rfl
                (refine one_ (i := 11) (N := some 59) #[true, true, true, true, true, true, true, true, true, true, true, true, false, true, true, true, true, true, true, false, false] rfl rfl (one_of HT_.out (by kernel_rfl)) (by decide) (fun K hK => ?_)); (refine goes_ Tryd.func94 (by kernel_rfl) rfl #[.int .u32 (rd x3_2 (ji18)), .int .i64 18] (by rfl) rfl rfl (by (try simp only [List.map_toArray, List.map_cons, List.map_nil]); first | done | (simp only [hji18]; rfl) | rfl | (simp only [List.length_drop, List.length_take]; rfl)) ?_); (with_reducible refine (rubrickref01_right.calls (rd x3_2 (ji18)) 18 t132 _ A22.out).mono ?_); rintro e w' ⟨rfl, ⟨nd, rfl⟩⟩; refine ⟨_, rfl, ?_⟩; (refine hK.out _ _ ⟨hHeld.1, hHeld.2.1, hHeld.2.2⟩ (fun hHeld => ?_)); clear hK K; refine norm_ (a' := ?_) ?_ ?_; rotate_left
                ·show Act.put _ (some 59) _ = _
                 simp only [Act.put, zl, i64_w, i32_w]; rfl
                (refine HBulk.bulkT (fuel := 0) HT_.out HW_.out [(12, some 60, false), (19, some 67, false), (20, some 6, false)] #[true, true, true, true, true, true, true, true, true, true, true, true, true, true, true, true, true, true, true, true, true] (a' := ?_) (by kernel_rfl) rfl hHeld ?_ ?_); rotate_left
                ·repeat
                  (refine HBulk.RunsM.cons (v := ?_) (a1 := ?_) rfl rfl (fun _ _ _ h => h) (by rfl) ?_ ?_ ?_); rotate_left
                  ·intro w' hS_
                   go_simp; (with_reducible rfl)
                  rotate_left
                  ·simp only [Act.put, zl, i64_w, i32_w]
                   rfl
                 exact HBulk.RunsM.nil
                (refine done_ (done_of HT_.out (by kernel_rfl)) ?_); (try go_wp2); (try (rw [drewN_self w35]; generalize hq_ : World.drewN w35 _ = w35; have n0_ : Aside0 (Kd.R (Kd.int .u32) 100 w35 w.heap.size (fun _ => True) (.slice (some ad129) x3_2.length co36) x3_2) := ⟨by rw [← hq_]; exact (zr HO_3.out)⟩; have n1_ : Aside0 (Below w.heap.size w w35) := ⟨by rw [← hq_]; exact (zb HB.out)⟩; clear HO_3 HB hq_; have HO_3 := n0_; have HB := n1_; clear n0_ n1_)); replace HO_3 := zM (Kd.R_drew HO_3.out); replace HB := zM (below_drew1 HB.out); have p134 : 0 ≤ ((ji23) : Int) := zd; have q134 : (ji23) < (x3_2.length : Int) := zd; obtain ⟨ad134, e134, hx134_0⟩ := Kd.at_int (Kd.R_reads' HO_3.out).2.2 (ji23) p134 q134; (obtain rfl : ad129 = ad134 := (by injection e134)); replace p134 := eq_true p134; replace q134 := eq_true q134; have p136 : 0 ≤ ((ji23) : Int) := zd; have q136 : (ji23) < (x3_2.length : Int) := zd; obtain ⟨ad136, e136, hx136_0⟩ := Kd.at_int (Kd.R_reads' HO_3.out).2.2 (ji23) p136 q136; (obtain rfl : ad129 = ad136 := (by injection e136)); replace p136 := eq_true p136; replace q136 := eq_true q136; have p138 : 0 ≤ ((ji23) : Int) := zd; have q138 : (ji23) < (x3_2.length : Int) := zd; obtain ⟨ad138, e138, hx138_0⟩ := Kd.at_int (Kd.R_reads' HO_3.out).2.2 (ji23) p138 q138; (obtain rfl : ad129 = ad138 := (by injection e138)); replace p138 := eq_true p138; replace q138 := eq_true q138; (refine start_ (n := 21) (S := fun w' => w'.cell? (ad129.add ((ji23)).toNat) = some (.int .u32 (rd x3_2 (ji23))) ∧ w'.cell? (ad129.add ((ji23)).toNat) = some (.int .u32 (rd x3_2 (ji23))) ∧ w'.cell? (ad129.add ((ji23)).toNat) = some (.int .u32 (rd x3_2 (ji23)))) (ds := []) #[false, false, false, false, false, false, false, false, false, false, false, false, false, false, false, false, false, false, false, false, false] (by kernel_rfl) rfl rfl ⟨hx134_0, hx136_0, hx138_0⟩ (fun hHeld => ?_); refine with_tabW rubrickref01_schedule.tab10 rubrickref01_schedule.bits10 (fun HT_ HW_ => ?_)); (generalize w35.drew = w37 at HO_3 HB hx134_0 hx136_0 hx138_0 hHeld ⊢); (refine HBulk.bulkT (fuel := 5) HT_.out HW_.out [(0, some 68, false), (1, some 69, false), (2, some 70, false), (3, some 71, false), (6, some 74, false), (7, some 75, false), (8, some 76, false), (9, some 77, false), (13, some 81, false), (14, some 82, false), (15, some 83, false), (16, some 84, false), (4, some 72, true), (10, some 78, true), (17, some 85, true), (18, some 86, false)] #[true, true, true, true, true, false, true, true, true, true, true, false, false, true, true, true, true, true, true, false, false] (a' := ?_) (by kernel_rfl) rfl hHeld ?_ ?_); rotate_left
                ·repeat
                  (refine HBulk.RunsM.cons (v := ?_) (a1 := ?_) rfl rfl (fun _ _ _ h => h) (by rfl) ?_ ?_ ?_); rotate_left
                  ·intro w' hS_; (try (obtain ⟨s0, s1, s2⟩ := hS_ rfl))
                   go_simp; (with_reducible rfl)
                  rotate_left
                  ·simp only [Act.put, zl, i64_w, i32_w]
                   rfl
                 exact HBulk.RunsM.nil
                (refine one_ (i := 5) (N := some 73) #[true, true, true, true, true, true, true, true, true, true, true, false, false, true, true, true, true, true, true, false, false] rfl rfl (one_of HT_.out (by kernel_rfl)) (by decide) (fun K hK => ?_)); (refine goes_ Tryd.func94 (by kernel_rfl) rfl #[.int .u32 (rd x3_2 (ji23)), .int .i64 17] (by rfl) rfl rfl (by (try simp only [List.map_toArray, List.map_cons, List.map_nil]); first | done | (simp only [hji23]; rfl) | rfl | (simp only [List.length_drop, List.length_take]; rfl)) ?_); (with_reducible refine (rubrickref01_right.calls (rd x3_2 (ji23)) 17 t135 _ A26.out).mono ?_); rintro e w' ⟨rfl, ⟨nd, rfl⟩⟩; refine ⟨_, rfl, ?_⟩; (refine hK.out _ _ ⟨hHeld.1, hHeld.2.1, hHeld.2.2⟩ (fun hHeld => ?_)); clear hK K; refine norm_ (a' := ?_) ?_ ?_; rotate_left
                ·show Act.put _ (some 73) _ = _
                 simp only [Act.put, zl, i64_w, i32_w]; rfl
                (refine one_ (i := 11) (N := some 79) #[true, true, true, true, true, true, true, true, true, true, true, true, false, true, true, true, true, true, true, false, false] rfl rfl (one_of HT_.out (by kernel_rfl)) (by decide) (fun K hK => ?_)); (refine goes_ Tryd.func94 (by kernel_rfl) rfl #[.int .u32 (rd x3_2 (ji23)), .int .i64 19] (by rfl) rfl rfl (by (try simp only [List.map_toArray, List.map_cons, List.map_nil]); first | done | (simp only [hji23]; rfl) | rfl | (simp only [List.length_drop, List.length_take]; rfl)) ?_); (with_reducible refine (rubrickref01_right.calls (rd x3_2 (ji23)) 19 t137 _ A27.out).mono ?_); rintro e w' ⟨rfl, ⟨nd, rfl⟩⟩; refine ⟨_, rfl, ?_⟩; (refine hK.out _ _ ⟨hHeld.1, hHeld.2.1, hHeld.2.2⟩ (fun hHeld => ?_)); clear hK K; refine norm_ (a' := ?_) ?_ ?_; rotate_left
                ·show Act.put _ (some 79) _ = _
                 simp only [Act.put, zl, i64_w, i32_w]; rfl
                (refine HBulk.bulkT (fuel := 0) HT_.out HW_.out [(12, some 80, false), (19, some 87, false), (20, some 7, false)] #[true, true, true, true, true, true, true, true, true, true, true, true, true, true, true, true, true, true, true, true, true] (a' := ?_) (by kernel_rfl) rfl hHeld ?_ ?_); rotate_left
                ·repeat
                  (refine HBulk.RunsM.cons (v := ?_) (a1 := ?_) rfl rfl (fun _ _ _ h => h) (by rfl) ?_ ?_ ?_); rotate_left
                  ·intro w' hS_
                   go_simp; (with_reducible rfl)
                  rotate_left
                  ·simp only [Act.put, zl, i64_w, i32_w]
                   rfl
                 exact HBulk.RunsM.nil
                (refine done_ (done_of HT_.out (by kernel_rfl)) ?_); (try go_wp2); (try (rw [drewN_self w37]; generalize hq_ : World.drewN w37 _ = w37; have n0_ : Aside0 (Kd.R (Kd.int .u32) 100 w37 w.heap.size (fun _ => True) (.slice (some ad129) x3_2.length co36) x3_2) := ⟨by rw [← hq_]; exact (zr HO_3.out)⟩; have n1_ : Aside0 (Below w.heap.size w w37) := ⟨by rw [← hq_]; exact (zb HB.out)⟩; clear HO_3 HB hq_; have HO_3 := n0_; have HB := n1_; clear n0_ n1_)); replace HO_3 := zM (Kd.R_drew HO_3.out); replace HB := zM (below_drew1 HB.out); have p139 : 0 ≤ ((ji28) : Int) := zd; have q139 : (ji28) < (x3_2.length : Int) := zd; obtain ⟨ad139, e139, hx139_0⟩ := Kd.at_int (Kd.R_reads' HO_3.out).2.2 (ji28) p139 q139; (obtain rfl : ad129 = ad139 := (by injection e139)); replace p139 := eq_true p139; replace q139 := eq_true q139; have p140 : 0 ≤ ((ji31) : Int) := zd; have q140 : (ji31) < (x3_2.length : Int) := zd; obtain ⟨ad140, e140, hx140_0⟩ := Kd.at_int (Kd.R_reads' HO_3.out).2.2 (ji31) p140 q140; (obtain rfl : ad129 = ad140 := (by injection e140)); replace p140 := eq_true p140; replace q140 := eq_true q140; (refine start_ (n := 19) (S := fun w' => w'.cell? (ad129.add ((ji28)).toNat) = some (.int .u32 (rd x3_2 (ji28))) ∧ w'.cell? (ad129.add ((ji31)).toNat) = some (.int .u32 (rd x3_2 (ji31)))) (ds := [16, 17]) #[false, false, false, false, false, false, false, false, false, false, false, false, false, false, false, false, false, false, false] (by kernel_rfl) rfl rfl ⟨hx139_0, hx140_0⟩ (fun hHeld => ?_); refine with_tabW rubrickref01_schedule.tab11 rubrickref01_schedule.bits11 (fun HT_ HW_ => ?_)); (generalize w37.drew = w38 at HO_3 HB hx139_0 hx140_0 hHeld ⊢); (refine HBulk.bulkT (fuel := 3) HT_.out HW_.out [(0, some 88, false), (1, some 89, false), (2, some 90, false), (3, some 91, false), (4, some 92, false), (6, some 94, false), (8, some 96, false), (9, some 97, false), (10, some 98, false), (11, some 99, false), (14, some 102, false), (5, some 93, true), (7, some 95, false), (12, some 100, true), (13, some 101, false), (15, some 103, false)] #[true, true, true, true, true, true, true, true, true, true, true, true, true, true, true, true, false, false, false] (a' := ?_) (by kernel_rfl) rfl hHeld ?_ ?_); rotate_left
                ·repeat
                  (refine HBulk.RunsM.cons (v := ?_) (a1 := ?_) rfl rfl (fun _ _ _ h => h) (by rfl) ?_ ?_ ?_); rotate_left
                  ·intro w' hS_; (try (obtain ⟨s0, s1⟩ := hS_ rfl))
                   go_simp; (with_reducible rfl)
                  rotate_left
                  ·simp only [Act.put, zl, i64_w, i32_w]
                   rfl
                 exact HBulk.RunsM.nil
                (refine last_ (i := 16) (N := some 104) #[true, true, true, true, true, true, true, true, true, true, true, true, true, true, true, true, true, false, false] rfl rfl (one_of HT_.out (by kernel_rfl)) (by decide) (fun K hK => ?_)); (refine value_ (w1 := ?_) (v := ?_) (by rfl) rfl ?_ ?_); rotate_left 2
                ·go_simp
                 constructor
                 ·rfl
                 ·rfl
                refine hK.out _ _ ?_; clear hK K; refine norm_ (a' := ?_) ?_ ?_; rotate_left
                ·show Act.put _ (some 104) _ = _
                 simp only [Act.put, zl, i64_w, i32_w]; rfl
                (refine last_ (i := 17) (N := some 105) #[true, true, true, true, true, true, true, true, true, true, true, true, true, true, true, true, true, true, false] rfl rfl (one_of HT_.out (by kernel_rfl)) (by decide) (fun K hK => ?_)); (refine Kd.R_append_step (Kd.int .u32) (w0 := w) w.heap.size (by rfl) (.tmp 88) (.tmp 104) 106 100 (.int .u32 0) 4 rfl Tryd.underlying106 info100 rfl (by decide) (by omega) (.slice (some ad129) x3_2.length co36) x3_2 (((((((rd x3_2 (ji28)) + (Go.bits .xor .u32 (Go.bits .xor .u32 t130 t132) ((rd x3_2 (ji18)) / 8))) % 4294967296) + (rd x3_2 (ji31))) % 4294967296) + (Go.bits .xor .u32 (Go.bits .xor .u32 t135 t137) ((rd x3_2 (ji23)) / 1024))) % 4294967296) [.int .u32 (((((((rd x3_2 (ji28)) + (Go.bits .xor .u32 (Go.bits .xor .u32 t130 t132) ((rd x3_2 (ji18)) / 8))) % 4294967296) + (rd x3_2 (ji31))) % 4294967296) + (Go.bits .xor .u32 (Go.bits .xor .u32 t135 t137) ((rd x3_2 (ji23)) / 1024))) % 4294967296)] (fun _ => True) (fun _ => False) rfl rfl ?aP (fun _ hk => hk.elim) ?aF ?aO ?aB ?aS ?aL ?_); (case aP => exact rfl); (case aB => exact (zb HB.out)); (case aF => exact (fun _ _ => trivial)); (case aO => exact (zr HO_3.out)); (case aS => exact (below_size (zb HB.out))); (case aL => have := LMc34.out; omega); intro v142 w39 ho hb hg hat; rw [← Ny141.out] at ho; replace HB := zM (hb); have HO143 := zM (ho); clear HO_3 ho hb hg hat; refine hK.out _ _ ?_; clear hK K; refine norm_ (a' := ?_) ?_ ?_; rotate_left
                ·show Act.put _ (some 105) _ = _
                 simp only [Act.put, zl, i64_w, i32_w]; rfl
                (refine pure_ (i := 18) (N := some 3) (v := ?_) (a' := ?_) #[true, true, true, true, true, true, true, true, true, true, true, true, true, true, true, true, true, true, true] rfl rfl (any_of HT_.out (by kernel_rfl)) (fun _ _ _ h => h) (Or.inl ⟨by rfl, ?_⟩) ?_ ?_); rotate_left
                ·intro w'
                 go_simp; (with_reducible rfl)
                rotate_left
                ·simp only [Act.put, zl, i64_w, i32_w]
                 rfl
                (refine done_ (done_of HT_.out (by kernel_rfl)) ?_); (try go_wp2); go_roundg k2
                case measure => have := HK1.out; have := HK2.out; omega
                case rel => exact ⟨(y141), (wrap64 (x5_2 + 1)), zz, H', ⟨by have := HK1.out; have := HK2.out; omega⟩, ⟨zr HO143.out⟩, ⟨zb HB.out⟩⟩
               ·rw [if_neg c34] at H
                exact absurd H (by simp)
              ·rw [if_neg c33] at H
               exact absurd H (by simp)
             ·rw [if_neg c32] at H
              exact absurd H (by simp)
            ·rw [if_neg c30] at H
             exact absurd H (by simp)
           ·rw [if_neg c29] at H
            exact absurd H (by simp)
          ·rw [if_neg c25] at H
           exact absurd H (by simp)
         ·rw [if_neg c24] at H
          exact absurd H (by simp)
        ·rw [if_neg c20] at H
         exact absurd H (by simp)
       ·rw [if_neg c19] at H
        exact absurd H (by simp)
      ·rw [if_neg c17] at H
       have c17b0 : decide (x5_2 < 64) = false := decide_eq_false c17; clear c17; obtain rfl := Option.some.inj H; go_wp2; go_ret; (exact ⟨_, by first | rfl | (simp [errW_none, errW_some] <;> rfl) | (simp [*, errW_none, errW_some] <;> rfl), zr HO_3.out, zb HB.out⟩)
end Go.Proofs.YtpmefpdafkbphaaDoor.PR
namespace Go.Proofs.YtpmefpdafkbphaaDoor.PR
open HZ Go.RowKit Go.Proofs.YtpmefpdafkbphaaDoor HSha Go.Proofs.YtpmefpdafkbphaaDoorW.PrintWords Go.Proofs.YtpmefpdafkbphaaDoorW.PrintLast Go.Proofs.YtpmefpdafkbphaaDoorW.PrintMore
attribute [local go_sem] max2_int min2_int max_two min_two max_three min_three max_four min_four
set_option linter.unusedVariables false
set_option linter.unusedSimpArgs false
def rubrickref01_constants.f  : Option (List Int) := some (([1116352408, 1899447441, 3049323471, 3921009573, 961987163, 1508970993, 2453635748, 2870763221, 3624381080, 310598401, 607225278, 1426881987, 1925078388, 2162078206, 2614888103, 3248222580, 3835390401, 4022224774, 264347078, 604807628, 770255983, 1249150122, 1555081692, 1996064986, 2554220882, 2821834349, 2952996808, 3210313671, 3336571891, 3584528711, 113926993, 338241895, 666307205, 773529912, 1294757372, 1396182291, 1695183700, 1986661051, 2177026350, 2456956037, 2730485921, 2820302411, 3259730800, 3345764771, 3516065817, 3600352804, 4094571909, 275423344, 430227734, 506948616, 659060556, 883997877, 958139571, 1322822218, 1537002063, 1747873779, 1955562222, 2024104815, 2227730452, 2361852424, 2428436474, 2756734187, 3204031479, 3329325298] : List Int))
set_option maxHeartbeats 8000000 in
set_option maxRecDepth 100000 in
theorem rubrickref01_constants.calls  (r : List Int) (w : World) (h : rubrickref01_constants.f  = some r) :
  Calls Tryd.prog 93 #[] w fun e w' => ∃ v0_ : Value, e = .returned (v0_) ∧ Kd.R (Kd.int .u32) 100 w' w.heap.size (fun _ => True) v0_ r ∧ Below w.heap.size w w' := by
 have HB := zM (Below.refl w.heap.size w)
 have H : (some (([1116352408, 1899447441, 3049323471, 3921009573, 961987163, 1508970993, 2453635748, 2870763221, 3624381080, 310598401, 607225278, 1426881987, 1925078388, 2162078206, 2614888103, 3248222580, 3835390401, 4022224774, 264347078, 604807628, 770255983, 1249150122, 1555081692, 1996064986, 2554220882, 2821834349, 2952996808, 3210313671, 3336571891, 3584528711, 113926993, 338241895, 666307205, 773529912, 1294757372, 1396182291, 1695183700, 1986661051, 2177026350, 2456956037, 2730485921, 2820302411, 3259730800, 3345764771, 3516065817, 3600352804, 4094571909, 275423344, 430227734, 506948616, 659060556, 883997877, 958139571, 1322822218, 1537002063, 1747873779, 1955562222, 2024104815, 2227730452, 2361852424, 2428436474, 2756734187, 3204031479, 3329325298] : List Int))) = some r := h
 clear h
 obtain ⟨y144, hy144⟩ : ∃ y_ : List Int, y_ = (([1116352408, 1899447441, 3049323471, 3921009573, 961987163, 1508970993, 2453635748, 2870763221, 3624381080, 310598401, 607225278, 1426881987, 1925078388, 2162078206, 2614888103, 3248222580, 3835390401, 4022224774, 264347078, 604807628, 770255983, 1249150122, 1555081692, 1996064986, 2554220882, 2821834349, 2952996808, 3210313671, 3336571891, 3584528711, 113926993, 338241895, 666307205, 773529912, 1294757372, 1396182291, 1695183700, 1986661051, 2177026350, 2456956037, 2730485921, 2820302411, 3259730800, 3345764771, 3516065817, 3600352804, 4094571909, 275423344, 430227734, 506948616, 659060556, 883997877, 958139571, 1322822218, 1537002063, 1747873779, 1955562222, 2024104815, 2227730452, 2361852424, 2428436474, 2756734187, 3204031479, 3329325298] : List Int)) := ⟨_, rfl⟩
 replace H : (some y144) = some r := zh H hy144
 have Ny144 := zM hy144
 clear hy144
 obtain rfl := Option.some.inj H
 go_enter Tryd.func93, Tryd.ntmps93
 go_wp2_with (first | ((with_reducible refine gate_dst (N := 1) rfl ?_); refine Kd.R_lit (Kd.int .u32) _ 100 ?hg (N := 1) ?hd (xs := ([1116352408, 1899447441, 3049323471, 3921009573, 961987163, 1508970993, 2453635748, 2870763221, 3624381080, 310598401, 607225278, 1426881987, 1925078388, 2162078206, 2614888103, 3248222580, 3835390401, 4022224774, 264347078, 604807628, 770255983, 1249150122, 1555081692, 1996064986, 2554220882, 2821834349, 2952996808, 3210313671, 3336571891, 3584528711, 113926993, 338241895, 666307205, 773529912, 1294757372, 1396182291, 1695183700, 1986661051, 2177026350, 2456956037, 2730485921, 2820302411, 3259730800, 3345764771, 3516065817, 3600352804, 4094571909, 275423344, 430227734, 506948616, 659060556, 883997877, 958139571, 1322822218, 1537002063, 1747873779, 1955562222, 2024104815, 2227730452, 2361852424, 2428436474, 2756734187, 3204031479, 3329325298] : List Int)) (inner := [.int .u32 1116352408, .int .u32 1899447441, .int .u32 3049323471, .int .u32 3921009573, .int .u32 961987163, .int .u32 1508970993, .int .u32 2453635748, .int .u32 2870763221, .int .u32 3624381080, .int .u32 310598401, .int .u32 607225278, .int .u32 1426881987, .int .u32 1925078388, .int .u32 2162078206, .int .u32 2614888103, .int .u32 3248222580, .int .u32 3835390401, .int .u32 4022224774, .int .u32 264347078, .int .u32 604807628, .int .u32 770255983, .int .u32 1249150122, .int .u32 1555081692, .int .u32 1996064986, .int .u32 2554220882, .int .u32 2821834349, .int .u32 2952996808, .int .u32 3210313671, .int .u32 3336571891, .int .u32 3584528711, .int .u32 113926993, .int .u32 338241895, .int .u32 666307205, .int .u32 773529912, .int .u32 1294757372, .int .u32 1396182291, .int .u32 1695183700, .int .u32 1986661051, .int .u32 2177026350, .int .u32 2456956037, .int .u32 2730485921, .int .u32 2820302411, .int .u32 3259730800, .int .u32 3345764771, .int .u32 3516065817, .int .u32 3600352804, .int .u32 4094571909, .int .u32 275423344, .int .u32 430227734, .int .u32 506948616, .int .u32 659060556, .int .u32 883997877, .int .u32 958139571, .int .u32 1322822218, .int .u32 1537002063, .int .u32 1747873779, .int .u32 1955562222, .int .u32 2024104815, .int .u32 2227730452, .int .u32 2361852424, .int .u32 2428436474, .int .u32 2756734187, .int .u32 3204031479, .int .u32 3329325298]) (ok := fun _ => True) (okp := fun _ => True) ?hr ?hp (fun _ hk => hk) trivial (Below.refl _ _) (Nat.le_refl _) (by simp) ?_; (case hd => rfl); (case hg => rfl); (case hr => first | (go_simp; done) | (go_simp; rfl)); (case hp => exact (Reps.one zi (Reps.one zi (Reps.one zi (Reps.one zi (Reps.one zi (Reps.one zi (Reps.one zi (Reps.one zi (Reps.one zi (Reps.one zi (Reps.one zi (Reps.one zi (Reps.one zi (Reps.one zi (Reps.one zi (Reps.one zi (Reps.one zi (Reps.one zi (Reps.one zi (Reps.one zi (Reps.one zi (Reps.one zi (Reps.one zi (Reps.one zi (Reps.one zi (Reps.one zi (Reps.one zi (Reps.one zi (Reps.one zi (Reps.one zi (Reps.one zi (Reps.one zi (Reps.one zi (Reps.one zi (Reps.one zi (Reps.one zi (Reps.one zi (Reps.one zi (Reps.one zi (Reps.one zi (Reps.one zi (Reps.one zi (Reps.one zi (Reps.one zi (Reps.one zi (Reps.one zi (Reps.one zi (Reps.one zi (Reps.one zi (Reps.one zi (Reps.one zi (Reps.one zi (Reps.one zi (Reps.one zi (Reps.one zi (Reps.one zi (Reps.one zi (Reps.one zi (Reps.one zi (Reps.one zi (Reps.one zi (Reps.one zi (Reps.one zi (Reps.one zi (Reps.none _ _)))))))))))))))))))))))))))))))))))))))))))))))))))))))))))))))))); intro v145 w1 ho2 hb hg_ hnew_; clear hg_ hnew_; (first | rw [← Ny144.out] at ho2 | (simp only [Int.reduceToNat] at ho2; rw [← Ny144.out] at ho2)); have HO146 := zL ho2 HB; replace HB := zS HB hb; clear hb ho2))
 go_ret
 exact ⟨_, by first | rfl | (simp [errW_none, errW_some] <;> rfl) | (simp [*, errW_none, errW_some] <;> rfl), zr HO146.out, zb HB.out⟩
end Go.Proofs.YtpmefpdafkbphaaDoor.PR

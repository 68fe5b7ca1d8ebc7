import Derived.Test.YtpmefpdafkbphaaDoorZtPB
import Derived.Test.YtpmefpdafkbphaaDoorZtHNode
namespace Go.Proofs.YtpmefpdafkbphaaDoor.PC
open HZ Go.RowKit Go.Proofs.YtpmefpdafkbphaaDoor HSha PS PR PT PB HNode Go.Proofs.YtpmefpdafkbphaaDoorW.PrintWords Go.Proofs.YtpmefpdafkbphaaDoorW.PrintLast Go.Proofs.YtpmefpdafkbphaaDoorW.PrintMore
attribute [local go_sem] max2_int min2_int max_two min_two max_three min_three max_four min_four
set_option linter.unusedVariables false
set_option linter.unusedSimpArgs false
def errW : Option Int → Value
 | none => .nilIface
 | some c => .iface 0 (.int .i64 c)
theorem errW_none : errW none = .nilIface := rfl
theorem errW_some (c : Int) : errW (some c) = .iface 0 (.int .i64 c) := rfl
theorem info9 : (Tryd.prog.info? 9).map (fun i => (i.zero, i.size, i.bytes)) = some (some (.string ⟨#[]⟩), 1, 16) := by kernel_rfl
def rd_L2 (xs : List (List Int)) (i : Int) : (List Int) := xs.getD i.toNat ([] : List Int)
theorem at_L2 {w : World} {A : Option Addr} {n : Nat} {xs : List (List Int)} (h : Kd.C (Kd.slice 5 (Kd.int .u8)) w A n xs) (i : Int) (h0 : 0 ≤ i) (h1 : i < n) : ∃ ad A0 c0, A = some ad ∧ w.cell? (ad.add i.toNat) = some (.slice A0 (rd_L2 xs i).length c0) ∧ (rd_L2 xs i).length ≤ c0 ∧ (Kd.int .u8).C w A0 (rd_L2 xs i).length (rd_L2 xs i) := by
 obtain ⟨ad, c, e, _, hK, hc0⟩ := Kd.C_get h ([] : List Int) i h0 h1
 have hc : ∀ j u, c[j]? = some u → w.cell? (ad.add (i.toNat * 1 + j)) = some u := hc0
 obtain ⟨A0, c0, rfl, l0, g0⟩ := hK
 exact ⟨ad, A0, c0, e, by have hq := hc 0 _ rfl; rwa [Nat.mul_one, Nat.add_zero] at hq, l0, g0⟩
end Go.Proofs.YtpmefpdafkbphaaDoor.PC
namespace Go.Proofs.YtpmefpdafkbphaaDoor.PC
open HZ Go.RowKit Go.Proofs.YtpmefpdafkbphaaDoor HSha PS PR PT PB HNode Go.Proofs.YtpmefpdafkbphaaDoorW.PrintWords Go.Proofs.YtpmefpdafkbphaaDoorW.PrintLast Go.Proofs.YtpmefpdafkbphaaDoorW.PrintMore
attribute [local go_sem] max2_int min2_int max_two min_two max_three min_three max_four min_four
set_option linter.unusedVariables false
set_option linter.unusedSimpArgs false
mutual
def rubrickref06_Split.j0 : Nat → Int → Bool → Option (Int)
 | 0, _, _ => none
 | k + 1, x0, x9 => if x9 = true then (some 0) else (rubrickref06_Split.l0 k x0 1)
def rubrickref06_Split.l0 : Nat → Int → Int → Option (Int)
 | 0, _, _ => none
 | k + 1, x0, x3 => if (wrap64 (2 * x3)) < x0 then (rubrickref06_Split.l0 k x0 (wrap64 (2 * x3))) else (some x3)
end
def rubrickref06_Split.f (k : Nat) (a0 : Int) : Option (Int) := if a0 < 2 then (rubrickref06_Split.j0 k a0 true) else (rubrickref06_Split.j0 k a0 (decide (a0 > 1099511627776)))
set_option maxHeartbeats 8000000 in
set_option maxRecDepth 100000 in
theorem rubrickref06_Split.calls (k : Nat) (a0 : Int) (r : Int) (w : World) (h : rubrickref06_Split.f k a0 = some r) :
  Calls Tryd.prog 63 #[.int .i64 a0] w fun e w' => e = .returned (.int .i64 r) ∧ Drawn0 w w' := by
 have H : (if a0 < 2 then (rubrickref06_Split.j0 k a0 true) else (rubrickref06_Split.j0 k a0 (decide (a0 > 1099511627776)))) = some r := h
 clear h
 have HC2 := zM H
 clear H
 go_enter Tryd.func63, Tryd.ntmps63
 go_upto_region 1 with (fail)
 go_cut [9] (fun v9 wc => ∃ (kq : Nat) (x9_1 : Bool), v9 = .bool x9_1 ∧ Aside0 (rubrickref06_Split.j0 kq a0 x9_1 = some r) ∧ Aside0 (kq ≤ k) ∧ Drawn0 w wc)
 case first =>
  have H := HC2.out; clear HC2
  by_cases c3 : a0 < 2
  ·rw [if_pos c3] at H
   have c3b0 : decide (a0 < 2) = true := decide_eq_true c3; clear c3; (first | rw [c3b0] | (simp only [i64_w, i32_w]; rw [c3b0]) | skip); have H' := zM H; clear H; go_wp2; go_meet
   case rel => exact ⟨_, (true), zz, H', ⟨by first | omega | exact Nat.le_refl _⟩, by repeat (first | exact Drawn0.refl _ | apply Drawn0.step)⟩
  ·rw [if_neg c3] at H
   have c3b0 : decide (a0 < 2) = false := decide_eq_false c3; clear c3; (first | rw [c3b0] | (simp only [i64_w, i32_w]; rw [c3b0]) | skip); have H' := zM H; clear H; go_wp2; go_meet
   case rel => exact ⟨_, (decide (a0 > 1099511627776)), zz, H', ⟨by first | omega | exact Nat.le_refl _⟩, by repeat (first | exact Drawn0.refl _ | apply Drawn0.step)⟩
 case rest =>
  clear HC2; (try clear p2); (try clear c3); (try clear c3b0); obtain ⟨kq, x9_1, rfl, HA, HJ1, ⟨mc1, rfl⟩⟩ := hcut
  cases kq with
  | zero => exact absurd HA.out (by simp [rubrickref06_Split.j0])
  | succ kj1 =>
   have H := HA.out; clear HA; simp only [rubrickref06_Split.j0] at H
   by_cases c4 : x9_1 = true
   ·subst c4
    (have H1 : (some 0) = some r := by rw [if_pos rfl] at H; exact H); clear H; have H := H1; clear H1; obtain rfl := Option.some.inj H; go_wp2; go_ret; (exact ⟨by first | rfl | (simp; done) | (simp [*]; done), by repeat (first | exact Drawn0.refl _ | apply Drawn0.step)⟩)
   ·replace c4 := Bool.eq_false_iff.mpr c4
    subst c4; (have H1 : (rubrickref06_Split.l0 kj1 a0 1) = some r := by rw [if_neg (show ¬ (false = true) by decide)] at H; exact H); clear H; have H := H1; clear H1; have H' := zM H; clear H; go_wp2; (go_loopg [3] kj1 (fun kq v3 w' => ∃ (x3_2 : Int), v3 = .int .i64 x3_2 ∧ Aside0 (rubrickref06_Split.l0 kq a0 x3_2 = some r) ∧ Aside0 (kq ≤ kj1) ∧ Drawn0 w w'))
    case atStart => exact ⟨(1), zz, H', ⟨Nat.le_refl _⟩, by repeat (first | exact Drawn0.refl _ | apply Drawn0.step)⟩
    case round =>
     clear H'; (try clear c1); (try clear p2); (try clear c3); (try clear c3b0); (try clear c4); (try clear p2); obtain ⟨x3_2, rfl, HA, HK2, ⟨m2, rfl⟩⟩ := hrel
     cases gk with
     | zero => exact absurd HA.out (by simp [rubrickref06_Split.l0])
     | succ k2 =>
      have H := HA.out; clear HA; simp only [rubrickref06_Split.l0] at H
      by_cases c5 : (wrap64 (2 * x3_2)) < a0
      ·rw [if_pos c5] at H
       have c5b0 : decide ((wrap64 (2 * x3_2)) < a0) = true := decide_eq_true c5; clear c5; have H' := zM H; clear H; go_wp2; go_roundg k2
       case measure => have := HJ1.out; have := HK2.out; omega
       case rel => exact ⟨(wrap64 (2 * x3_2)), zz, H', ⟨by have := HJ1.out; have := HK2.out; omega⟩, by repeat (first | exact Drawn0.refl _ | apply Drawn0.step)⟩
      ·rw [if_neg c5] at H
       have c5b0 : decide ((wrap64 (2 * x3_2)) < a0) = false := decide_eq_false c5; clear c5; obtain rfl := Option.some.inj H; go_wp2; go_ret; (exact ⟨by first | rfl | (simp; done) | (simp [*]; done), by repeat (first | exact Drawn0.refl _ | apply Drawn0.step)⟩)
def rubrickref06_Root.f : Nat → List ByteArray → Option (ByteArray)
 | 0, _ => none
 | k + 1, l0 => if (l0.length : Int) = 0 then ((rubrickref01_Sum.f k ([] : List Int)).bind fun t102 => (some t102)) else (if (l0.length : Int) = 1 then (if 0 < (l0.length : Int) then (some (rdOf ByteArray.empty l0 0)) else (none)) else ((rubrickref06_Split.f k (l0.length : Int)).bind fun t104 => (if 0 ≤ t104 then (if t104 ≤ (l0.length : Int) then ((rubrickref06_Root.f k (l0.take (t104 : Int).toNat)).bind fun t106 => ((rubrickref06_Root.f k (l0.drop (t104 : Int).toNat)).bind fun t108 => ((rubrickref03_Node.f k t106 t108).bind fun t109 => (some t109)))) else (none)) else (none))))
def rubrickref06_Root.T6 : Bool × List (List Nat × List Nat) := (true, [([], []), ([], []), ([0, 1], [0, 1]), ([2], [2]), ([], []), ([], []), ([4, 5], [4, 5]), ([6, 3], [6]), ([3, 7, 7], [3, 7]), ([8, 8, 0, 1, 2, 3, 4, 5, 6, 7, 8], [8])])
def rubrickref06_Root.B6 : List Nat := [0, 0, 3, 7, 0, 0, 48, 127, 255, 511]
theorem rubrickref06_Root.tab6 : rtab .any (opsOf Tryd.f34 6) = rubrickref06_Root.T6 := by kernel_rfl
theorem rubrickref06_Root.bits6 : waitsOk rubrickref06_Root.T6.2 rubrickref06_Root.B6 = true := by kernel_rfl
set_option maxHeartbeats 8000000 in
set_option maxRecDepth 100000 in
theorem rubrickref06_Root.calls (k : Nat) : ∀ (A0 : Option Addr) (c0 : Nat) (l0 : List ByteArray) (r : ByteArray) (w : World) (hr0 : Kd.C Kd.string w A0 l0.length l0) (hc0 : l0.length ≤ c0) (h : rubrickref06_Root.f k l0 = some r),
  Calls Tryd.prog 34 #[.slice A0 l0.length c0] w fun e w' => e = .returned (.string r) ∧ Below w.heap.size w w' := by
 induction k using Nat.strongRecOn with
 | _ k ih =>
 intro A0 c0 l0 r w hr0 hc0 h
 cases k with
 | zero => exact absurd h (by simp [rubrickref06_Root.f])
 | succ k =>
 simp only [rubrickref06_Root.f] at h
 have HR0 := zM hr0
 have HC0 := zM hc0
 clear hr0 hc0
 have HB := zM (Below.refl w.heap.size w)
 have H : (if (l0.length : Int) = 0 then ((rubrickref01_Sum.f k ([] : List Int)).bind fun t102 => (some t102)) else (if (l0.length : Int) = 1 then (if 0 < (l0.length : Int) then (some (rdOf ByteArray.empty l0 0)) else (none)) else ((rubrickref06_Split.f k (l0.length : Int)).bind fun t104 => (if 0 ≤ t104 then (if t104 ≤ (l0.length : Int) then ((rubrickref06_Root.f k (l0.take (t104 : Int).toNat)).bind fun t106 => ((rubrickref06_Root.f k (l0.drop (t104 : Int).toNat)).bind fun t108 => ((rubrickref03_Node.f k t106 t108).bind fun t109 => (some t109)))) else (none)) else (none))))) = some r := h
 clear h
 by_cases c2 : (l0.length : Int) = 0
 ·rw [if_pos c2] at H
  have c2b0 : ((l0.length : Int) == 0) = true := beq_iff_eq.mpr c2; have c2b1 : ((l0.length : Int) != 0) = false := bne_eq_false_iff_eq.mpr c2; clear c2; replace H := zB H; obtain ⟨t102, A30, H⟩ := H; replace H : (some t102) = some r := H; have A3 := zM A30; clear A30; obtain rfl := Option.some.inj H; go_enter Tryd.func34, Tryd.ntmps34; (go_wp2_with (first | ((with_reducible refine gate_callee (f := 53) rfl ?_); refine goesL_ (some 7) rfl rfl Tryd.func53 (by kernel_rfl) rfl #[.slice none 0 0] rfl zm ?_; (refine (rubrickref01_Sum.calls k _ _ ([] : List Int) t102 _ ?side1 ?side2 A3.out).mono ?_); (case side1 => exact Kd.C_nil _ _); (case side2 => exact Nat.le_refl _); rintro e w4 ⟨rfl, hb⟩; refine ⟨_, rfl, ?_⟩; replace HB := zS HB hb; (try clear hb)))); go_ret; (exact ⟨by first | rfl | (simp [errW_none, errW_some] <;> rfl) | (simp [*, errW_none, errW_some] <;> rfl), zb HB.out⟩)
 ·rw [if_neg c2] at H
  have c2b0 : ((l0.length : Int) == 0) = false := beq_eq_false_iff_ne.mpr c2; have c2b1 : ((l0.length : Int) != 0) = true := bne_iff_ne.mpr c2; (have c2b2 : ¬ (l0 = []) := fun h_ => c2 (by rw [h_]; rfl))
  by_cases c5 : (l0.length : Int) = 1
  ·rw [if_pos c5] at H
   have c5b0 : ((l0.length : Int) == 1) = true := beq_iff_eq.mpr c5; have c5b1 : ((l0.length : Int) != 1) = false := bne_eq_false_iff_eq.mpr c5; clear c5
   by_cases c6 : 0 < (l0.length : Int)
   ·rw [if_pos c6] at H
    have c6b0 : decide (0 < (l0.length : Int)) = true := decide_eq_true c6; (have c6b1 : decide (0 < l0.length) = true := decide_eq_true (by omega)); clear c6; obtain rfl := Option.some.inj H; (have p103 : 0 ≤ (0 : Int) := (by omega)); have q103 : 0 < (l0.length : Int) := zd; obtain ⟨ad103, e103, hx103_0⟩ := Kd.at_string HR0.out 0 p103 q103; cases e103; (have qi103 : (0 < l0.length) = True := eq_true (by omega)); (try rw [show ((0 : Int)).toNat = 0 from rfl] at hx103_0); (try rw [Addr.add_zero'] at hx103_0); replace p103 := eq_true p103; replace q103 := eq_true q103; go_enter Tryd.func34, Tryd.ntmps34; go_wp2; go_ret; (exact ⟨by first | rfl | (simp [errW_none, errW_some] <;> rfl) | (simp [*, errW_none, errW_some] <;> rfl), zb HB.out⟩)
   ·rw [if_neg c6] at H
    exact absurd H (by simp)
  ·rw [if_neg c5] at H
   have c5b0 : ((l0.length : Int) == 1) = false := beq_eq_false_iff_ne.mpr c5; have c5b1 : ((l0.length : Int) != 1) = true := bne_iff_ne.mpr c5; replace H := zB H; obtain ⟨t104, A70, H⟩ := H; (replace H : (if 0 ≤ t104 then (if t104 ≤ (l0.length : Int) then ((rubrickref06_Root.f k (l0.take (t104 : Int).toNat)).bind fun t106 => ((rubrickref06_Root.f k (l0.drop (t104 : Int).toNat)).bind fun t108 => ((rubrickref03_Node.f k t106 t108).bind fun t109 => (some t109)))) else (none)) else (none)) = some r := H); have A7 := zM A70; clear A70
   by_cases c8 : 0 ≤ t104
   ·rw [if_pos c8] at H
    have c8b0 := eq_true c8; have c8b1 : decide (0 ≤ t104) = true := decide_eq_true c8; clear c8
    by_cases c9 : t104 ≤ (l0.length : Int)
    ·rw [if_pos c9] at H
     have c9b0 := eq_true c9; have c9b1 : decide (t104 ≤ (l0.length : Int)) = true := decide_eq_true c9; clear c9; replace H := zB H; obtain ⟨t106, A100, H⟩ := H; (replace H : ((rubrickref06_Root.f k (l0.drop (t104 : Int).toNat)).bind fun t108 => ((rubrickref03_Node.f k t106 t108).bind fun t109 => (some t109))) = some r := H); have A10 := zM A100; clear A100; have c11b0 := eq_true (zd : 0 ≤ t104); have c12b0 := eq_true (zd : t104 ≤ (l0.length : Int)); replace H := zB H; obtain ⟨t108, A130, H⟩ := H; (replace H : ((rubrickref03_Node.f k t106 t108).bind fun t109 => (some t109)) = some r := H); have A13 := zM A130; clear A130; replace H := zB H; obtain ⟨t109, A140, H⟩ := H; replace H : (some t109) = some r := H; have A14 := zM A140; clear A140; obtain rfl := Option.some.inj H; go_enter Tryd.func34, Tryd.ntmps34; (try go_wp2_with (first | ((with_reducible refine gate_callee (f := 63) rfl ?_); refine goesL_ (some 16) rfl rfl Tryd.func63 (by kernel_rfl) rfl #[.int .i64 (l0.length : Int)] rfl zm ?_; (with_reducible refine (rubrickref06_Split.calls k (l0.length : Int) t104 _ A7.out).mono ?_); rintro e w' ⟨rfl, ⟨nd, rfl⟩⟩; refine ⟨_, rfl, ?_⟩))); (try simp only [World.drewN_drewN]); generalize hq_ : World.drewN w _ = w15; (have n0_ : Aside0 (Below w.heap.size w w15) := ⟨by rw [← hq_]; exact pw_below_drewN HB.out _⟩); clear hq_ HB; have HB := n0_; clear n0_; replace HB := zM (below_drew1 HB.out); obtain ⟨i017, hi017, _, hsz17, _⟩ := info_parts info9; obtain ⟨hcut17, hA17, hC17⟩ := print_take_of (P := Tryd.prog) Value.string (⟨#[]⟩ : ByteArray) 22 9 .i64 Tryd.underlying22 hi017 hsz17 A0 c0 l0 t104 (zd) (zd) HC0.out; (have HR105 := zM (Kd.C_of_reads (h1 := fun _ => rfl) (hA17 _ (Kd.reads_of_C HR0.out)))); have HC105 := zM hC17; clear hA17 hC17 hi017 hsz17; obtain ⟨i018, hi018, _, hsz18, _⟩ := info_parts info9; obtain ⟨A18, hcut18, hA18, hC18⟩ := print_drop_of (P := Tryd.prog) Value.string (⟨#[]⟩ : ByteArray) 22 9 .i64 Tryd.underlying22 hi018 hsz18 A0 c0 l0 t104 (zd) (zd) HC0.out; (have HR107 := zM (Kd.C_of_reads (h1 := fun _ => rfl) (hA18 _ (Kd.reads_of_C HR0.out)))); have HC107 := zM hC18; clear hA18 hC18 hi018 hsz18; (refine start_ (n := 10) (S := fun w' => True) (ds := []) #[false, false, false, false, false, false, false, false, false, false] (by kernel_rfl) rfl rfl trivial (fun hHeld => ?_); refine with_tabW rubrickref06_Root.tab6 rubrickref06_Root.bits6 (fun HT_ HW_ => ?_)); (generalize w15.drew = w16 at HB hHeld ⊢); (refine HBulk.bulkT (fuel := 4) HT_.out HW_.out [(0, some 17, false), (1, some 18, false), (2, some 19, false), (4, some 21, false), (5, some 22, false), (6, some 23, false)] #[true, true, true, false, true, true, true, false, false, false] (a' := ?_) (by kernel_rfl) rfl hHeld ?_ ?_); rotate_left
     ·repeat
       (refine HBulk.RunsM.cons (v := ?_) (a1 := ?_) rfl rfl (fun _ _ _ h => h) (by rfl) ?_ ?_ ?_); rotate_left
       ·intro w' hS_
        go_simp; (with_reducible rfl)
       rotate_left
       ·simp only [Act.put, zl, i64_w, i32_w]
        rfl
      exact HBulk.RunsM.nil
     (refine one_ (i := 3) (N := some 20) #[true, true, true, true, true, true, true, false, false, false] rfl rfl (one_of HT_.out (by kernel_rfl)) (by decide) (fun K hK => ?_)); (refine goes_ Tryd.func34 (by kernel_rfl) rfl #[.slice A0 (l0.take (t104 : Int).toNat).length c0] (by rfl) rfl rfl (by (try simp only [List.map_toArray, List.map_cons, List.map_nil]); first | done | (rw [show (l0.take (t104 : Int).toNat).length = t104.toNat from (by rw [List.length_take]; have h_ : (t104 : Int) ≤ (l0.length : Int) := zd; omega)] <;> rfl) | rfl | (simp only [List.length_drop, List.length_take]; rfl)) ?_); (with_reducible refine (ih k (by omega) _ _ (l0.take (t104 : Int).toNat) t106 _ ?side1 ?side2 A10.out).mono ?_); (case side1 => exact zc (Kd.C_below HR105.out HB.out)); (case side2 => exact HC105.out); rintro e w19 ⟨rfl, hb⟩; refine ⟨_, rfl, ?_⟩; replace HB := zS HB hb; (try clear hb); (refine hK.out _ _ trivial (fun hHeld => ?_)); clear hK K; refine norm_ (a' := ?_) ?_ ?_; rotate_left
     ·show Act.put _ (some 20) _ = _
      simp only [Act.put, zl, i64_w, i32_w]; rfl
     (refine one_ (i := 7) (N := some 24) #[true, true, true, true, true, true, true, true, false, false] rfl rfl (one_of HT_.out (by kernel_rfl)) (by decide) (fun K hK => ?_)); (refine goes_ Tryd.func34 (by kernel_rfl) rfl #[.slice A18 (l0.drop (t104 : Int).toNat).length (c0 - t104.toNat)] (by rfl) rfl rfl (by (try simp only [List.map_toArray, List.map_cons, List.map_nil]); first | done | (rw [show (l0.drop (t104 : Int).toNat).length = (l0.length - t104.toNat) from List.length_drop] <;> rfl) | rfl | (simp only [List.length_drop, List.length_take]; rfl)) ?_); (with_reducible refine (ih k (by omega) _ _ (l0.drop (t104 : Int).toNat) t108 _ ?side1 ?side2 A13.out).mono ?_); (case side1 => exact zc (Kd.C_below HR107.out HB.out)); (case side2 => exact HC107.out); rintro e w20 ⟨rfl, hb⟩; refine ⟨_, rfl, ?_⟩; replace HB := zS HB hb; (try clear hb); (refine hK.out _ _ trivial (fun hHeld => ?_)); clear hK K; refine norm_ (a' := ?_) ?_ ?_; rotate_left
     ·show Act.put _ (some 24) _ = _
      simp only [Act.put, zl, i64_w, i32_w]; rfl
     (refine one_ (i := 8) (N := some 25) #[true, true, true, true, true, true, true, true, true, false] rfl rfl (one_of HT_.out (by kernel_rfl)) (by decide) (fun K hK => ?_)); (refine goes_ Tryd.func70 (by kernel_rfl) rfl #[.string t106, .string t108] (by rfl) rfl rfl zm ?_); (with_reducible refine (rubrickref03_Node.calls k t106 t108 t109 _ A14.out).mono ?_); rintro e w21 ⟨rfl, hb⟩; refine ⟨_, rfl, ?_⟩; replace HB := zS HB hb; (try clear hb); (refine hK.out _ _ trivial (fun hHeld => ?_)); clear hK K; refine norm_ (a' := ?_) ?_ ?_; rotate_left
     ·show Act.put _ (some 25) _ = _
      simp only [Act.put, zl, i64_w, i32_w]; rfl
     (refine pure_ (i := 9) (N := some 2) (v := ?_) (a' := ?_) #[true, true, true, true, true, true, true, true, true, true] rfl rfl (any_of HT_.out (by kernel_rfl)) (fun _ _ _ h => h) (Or.inl ⟨by rfl, ?_⟩) ?_ ?_); rotate_left
     ·intro w'
      go_simp; (with_reducible rfl)
     rotate_left
     ·simp only [Act.put, zl, i64_w, i32_w]
      rfl
     (refine done_ (done_of HT_.out (by kernel_rfl)) ?_); (try go_wp2); go_ret; (exact ⟨by first | rfl | (simp [errW_none, errW_some] <;> rfl) | (simp [*, errW_none, errW_some] <;> rfl), zb HB.out⟩)
    ·rw [if_neg c9] at H
     exact absurd H (by simp)
   ·rw [if_neg c8] at H
    exact absurd H (by simp)
end Go.Proofs.YtpmefpdafkbphaaDoor.PC
namespace Go.Proofs.YtpmefpdafkbphaaDoor.PC
open HZ Go.RowKit Go.Proofs.YtpmefpdafkbphaaDoor HSha PS PR PT PB HNode Go.Proofs.YtpmefpdafkbphaaDoorW.PrintWords Go.Proofs.YtpmefpdafkbphaaDoorW.PrintLast Go.Proofs.YtpmefpdafkbphaaDoorW.PrintMore
attribute [local go_sem] max2_int min2_int max_two min_two max_three min_three max_four min_four
set_option linter.unusedVariables false
set_option linter.unusedSimpArgs false
def rubrickref06_Leaves.l0 : Nat → List (List Int) → List ByteArray → Int → Option (List ByteArray)
 | 0, _, _, _ => none
 | k + 1, x0, x3, x4 => if x4 < (x0.length : Int) then (if 0 ≤ x4 then ((rubrickref03_Leaf.f k (rd_L2 x0 x4)).bind fun t123 => (if x3.length < 8796093022208 then (rubrickref06_Leaves.l0 k x0 (x3 ++ [t123]) (wrap64 (x4 + 1))) else (none))) else (none)) else (some x3)
def rubrickref06_Leaves.f (k : Nat) (l0 : List (List Int)) : Option (List ByteArray) := rubrickref06_Leaves.l0 k l0 ([] : List ByteArray) 0
set_option maxHeartbeats 8000000 in
set_option maxRecDepth 100000 in
theorem rubrickref06_Leaves.calls (k : Nat) (A0 : Option Addr) (c0 : Nat) (l0 : List (List Int)) (r : List ByteArray) (w : World) (hr0 : Kd.C (Kd.slice 5 (Kd.int .u8)) w A0 l0.length l0) (hc0 : l0.length ≤ c0) (h : rubrickref06_Leaves.f k l0 = some r) :
  Calls Tryd.prog 31 #[.slice A0 l0.length c0] w fun e w' => ∃ v0_ : Value, e = .returned (v0_) ∧ Kd.R Kd.string 9 w' w.heap.size (fun _ => True) v0_ r ∧ Below w.heap.size w w' := by
 have HR0 := zM hr0
 have HC0 := zM hc0
 clear hr0 hc0
 have HB := zM (Below.refl w.heap.size w)
 have H : (rubrickref06_Leaves.l0 k l0 ([] : List ByteArray) 0) = some r := h
 clear h
 have H' := zM H
 clear H
 go_enter Tryd.func31, Tryd.ntmps31
 go_wp2
 go_loopg [3, 4] k (fun kq v3 v4 w' => ∃ (x3_1 : List ByteArray) (x4_1 : Int), v4 = .int .i64 x4_1 ∧ Aside0 (rubrickref06_Leaves.l0 kq l0 x3_1 x4_1 = some r) ∧ Aside0 (kq ≤ k) ∧ Aside0 (Kd.R Kd.string 9 w' w.heap.size (fun _ => True) v3 x3_1) ∧ Aside0 (Below w.heap.size w w'))
 case atStart => exact ⟨(([] : List ByteArray)), (0), zz, H', ⟨Nat.le_refl _⟩, ⟨by first | exact Kd.R_nil _ _ _ _ _ | exact Kd.N_nil _ _ _ _ _ | exact Kd.V_nil _ _ _ _ _ | exact Kd.Q_nil _ _ _ _ _ | exact Kd.S_nil _ _ _ _ _⟩, ⟨zb HB.out⟩⟩
 case round =>
  clear H'; obtain ⟨x3_1, x4_1, rfl, HA, HK1, HO_3, HB⟩ := hrel
  cases gk with
  | zero => exact absurd HA.out (by simp [rubrickref06_Leaves.l0])
  | succ k1 =>
   have H := HA.out; clear HA; simp only [rubrickref06_Leaves.l0] at H
   by_cases c2 : x4_1 < (l0.length : Int)
   ·rw [if_pos c2] at H
    have c2b0 : decide (x4_1 < (l0.length : Int)) = true := decide_eq_true c2; clear c2
    by_cases c3 : 0 ≤ x4_1
    ·rw [if_pos c3] at H
     have c3b0 : decide (0 ≤ x4_1) = true := decide_eq_true c3; clear c3; replace H := zB H; obtain ⟨t123, A40, H⟩ := H; (replace H : (if x3_1.length < 8796093022208 then (rubrickref06_Leaves.l0 k1 l0 (x3_1 ++ [t123]) (wrap64 (x4_1 + 1))) else (none)) = some r := H); have A4 := zM A40; clear A40
     by_cases c5 : x3_1.length < 8796093022208
     ·rw [if_pos c5] at H
      have LMc5 := zM c5; clear c5; obtain ⟨y124, hy124⟩ : ∃ y_ : List ByteArray, y_ = (x3_1 ++ [t123]) := ⟨_, rfl⟩; replace H : (rubrickref06_Leaves.l0 k1 l0 y124 (wrap64 (x4_1 + 1))) = some r := zh H hy124; have Ny124 := zM hy124; clear hy124; have H' := zM H; clear H; have p122 : 0 ≤ (x4_1 : Int) := zd; have q122 : x4_1 < (l0.length : Int) := zd; obtain ⟨ad122, A122_0, c122_0, e122, hx122_0, hl122_0, hi122_0⟩ := at_L2 HR0.out x4_1 p122 q122; cases e122; replace hx122_0 := zw HB hx122_0; have HR122_0 := zM hi122_0; have HC122_0 := zM hl122_0; clear hi122_0 hl122_0; replace p122 := eq_true p122; replace q122 := eq_true q122; (go_wp2_with (first | ((with_reducible refine gate_callee (f := 33) rfl ?_); refine goesL_ (some 16) rfl rfl Tryd.func33 (by kernel_rfl) rfl #[.slice A122_0 (rd_L2 l0 x4_1).length c122_0] rfl zm ?_; (with_reducible refine (rubrickref03_Leaf.calls k1 _ _ (rd_L2 l0 x4_1) t123 _ ?side1 ?side2 A4.out).mono ?_); (case side1 => exact zc (Kd.C_below HR122_0.out HB.out)); (case side2 => exact HC122_0.out); rintro e w6 ⟨rfl, hb⟩; refine ⟨_, rfl, ?_⟩; replace HO_3 := zR HO_3 hb; replace HB := zS HB hb; (try clear hb)) | ((with_reducible refine gate_builtin (b := .append) (xs := #[.tmp 11, .tmp 17]) rfl ?_); at_builtin; refine Kd.R_append Kd.string (w0 := w) w.heap.size rfl (.tmp 11) (.tmp 17) 22 9 (.string ⟨#[]⟩) 16 rfl Tryd.underlying22 info9 rfl (by decide) (by omega) u3 x3_1 t123 [.string t123] (fun _ => True) (fun _ => False) rfl rfl ?aP (fun _ hk => hk.elim) ?aF ?aO ?aB ?aS ?aL ?_; (case aP => exact rfl); (case aB => exact (zb HB.out)); (case aF => exact (fun _ _ => trivial)); (case aO => exact (zr HO_3.out)); (case aS => exact (below_size (zb HB.out))); (case aL => have := LMc5.out; omega); intro v125 w7 ho hb hg hat; rw [← Ny124.out] at ho; replace HB := zM (hb); have HO126 := zM (ho); clear HO_3 ho hb hg hat))); go_roundg k1
      case measure => have := HK1.out; omega
      case rel => exact ⟨(y124), (wrap64 (x4_1 + 1)), zz, H', ⟨by have := HK1.out; omega⟩, ⟨zr HO126.out⟩, ⟨zb HB.out⟩⟩
     ·rw [if_neg c5] at H
      exact absurd H (by simp)
    ·rw [if_neg c3] at H
     exact absurd H (by simp)
   ·rw [if_neg c2] at H
    have c2b0 : decide (x4_1 < (l0.length : Int)) = false := decide_eq_false c2; clear c2; obtain rfl := Option.some.inj H; go_wp2; go_ret; (exact ⟨_, by first | rfl | (simp [errW_none, errW_some] <;> rfl) | (simp [*, errW_none, errW_some] <;> rfl), zr HO_3.out, zb HB.out⟩)
end Go.Proofs.YtpmefpdafkbphaaDoor.PC

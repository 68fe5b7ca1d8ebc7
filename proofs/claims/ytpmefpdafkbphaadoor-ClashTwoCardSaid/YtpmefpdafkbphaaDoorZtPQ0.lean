import Derived.Test.YtpmefpdafkbphaaDoorZtPC
import Derived.Test.YtpmefpdafkbphaaDoorZtHBytes8
namespace Go.Proofs.YtpmefpdafkbphaaDoor.PQ
open HZ Go.RowKit Go.Proofs.YtpmefpdafkbphaaDoor HSha PS PR PT PB HNode PC HBytes8 Go.Proofs.YtpmefpdafkbphaaDoorW.PrintWords Go.Proofs.YtpmefpdafkbphaaDoorW.PrintLast Go.Proofs.YtpmefpdafkbphaaDoorW.PrintMore
attribute [local go_sem] max2_int min2_int max_two min_two max_three min_three max_four min_four
set_option linter.unusedVariables false
set_option linter.unusedSimpArgs false
def errW : Option Int → Value
 | none => .nilIface
 | some c => .iface 0 (.int .i64 c)
theorem errW_none : errW none = .nilIface := rfl
theorem errW_some (c : Int) : errW (some c) = .iface 0 (.int .i64 c) := rfl
theorem info9 : (Tryd.prog.info? 9).map (fun i => (i.zero, i.size, i.bytes)) = some (some (.string ⟨#[]⟩), 1, 16) := by kernel_rfl
theorem info41 : (Tryd.prog.info? 41).map (fun i => (i.zero, i.size, i.bytes)) = some (some (.slice none 0 0), 1, 24) := by kernel_rfl
theorem info77 : (Tryd.prog.info? 77).map (fun i => (i.zero, i.size, i.bytes)) = some (some (.agg #[(.slice none 0 0), (.slice none 0 0)]), 2, 48) := by kernel_rfl
def rd_L2 (xs : List (List Int)) (i : Int) : (List Int) := xs.getD i.toNat ([] : List Int)
theorem at_L2 {w : World} {A : Option Addr} {n : Nat} {xs : List (List Int)} (h : Kd.C (Kd.slice 5 (Kd.int .u8)) w A n xs) (i : Int) (h0 : 0 ≤ i) (h1 : i < n) : ∃ ad A0 c0, A = some ad ∧ w.cell? (ad.add i.toNat) = some (.slice A0 (rd_L2 xs i).length c0) ∧ (rd_L2 xs i).length ≤ c0 ∧ (Kd.int .u8).C w A0 (rd_L2 xs i).length (rd_L2 xs i) := by
 obtain ⟨ad, c, e, _, hK, hc0⟩ := Kd.C_get h ([] : List Int) i h0 h1
 have hc : ∀ j u, c[j]? = some u → w.cell? (ad.add (i.toNat * 1 + j)) = some u := hc0
 obtain ⟨A0, c0, rfl, l0, g0⟩ := hK
 exact ⟨ad, A0, c0, e, by have hq := hc 0 _ rfl; rwa [Nat.mul_one, Nat.add_zero] at hq, l0, g0⟩
structure S77 where
 f0 : (List Int)
 f1 : (List Int)
def z77 : S77 := ⟨([] : List Int), ([] : List Int)⟩
def k77 : Kd S77 := Kd.iso (Kd.pair (Kd.slice 5 (Kd.int .u8)) (Kd.slice 5 (Kd.int .u8))) (fun x : S77 => (x.f0, x.f1))
theorem k77_open {w : World} {x : S77} {cs : List Value} (h : k77.K w x cs) : ∃ A0 c0 A1 c1, cs = [.slice A0 x.f0.length c0, .slice A1 x.f1.length c1] ∧ x.f0.length ≤ c0 ∧ (Kd.int .u8).C w A0 x.f0.length x.f0 ∧ x.f1.length ≤ c1 ∧ (Kd.int .u8).C w A1 x.f1.length x.f1 := by
 obtain ⟨_, _, rfl, ⟨A0, c0, rfl, l0, g0⟩, ⟨A1, c1, rfl, l1, g1⟩⟩ := h
 exact ⟨A0, c0, A1, c1, rfl, l0, g0, l1, g1⟩
theorem k77_mk (w : World) (x : S77) {A0 : Option Addr} {c0 : Nat} (l0 : x.f0.length ≤ c0) (g0 : (Kd.int .u8).C w A0 x.f0.length x.f0) {A1 : Option Addr} {c1 : Nat} (l1 : x.f1.length ≤ c1) (g1 : (Kd.int .u8).C w A1 x.f1.length x.f1) : k77.K w x [.slice A0 x.f0.length c0, .slice A1 x.f1.length c1] := ⟨[.slice A0 x.f0.length c0], [.slice A1 x.f1.length c1], rfl, ⟨A0, c0, rfl, l0, g0⟩, ⟨A1, c1, rfl, l1, g1⟩⟩
theorem k77_openF {W : World} {ok : Nat → Prop} {x : S77} {cs : List Value} (h : Kd.FK k77 W ok x cs) : ∃ A0 c0 A1 c1, cs = [.slice A0 x.f0.length c0, .slice A1 x.f1.length c1] ∧ x.f0.length ≤ c0 ∧ Kd.F (Kd.int .u8) W ok A0 x.f0.length x.f0 ∧ x.f1.length ≤ c1 ∧ Kd.F (Kd.int .u8) W ok A1 x.f1.length x.f1 := by
 obtain ⟨A0, c0, A1, c1, rfl, l0, _, l1, _⟩ := k77_open (Kd.FK_now h)
 exact ⟨A0, c0, A1, c1, rfl, l0, (fun W' hW => by obtain ⟨A0_, c0_, A1_, c1_, he, l0_, g0_, l1_, g1_⟩ := k77_open (h W' hW); injection (Option.some.inj (show some (Value.slice A0 x.f0.length c0) = some (Value.slice A0_ x.f0.length c0_) from congrArg (fun l => l[0]?) he)) with ha_ _ _; rw [ha_]; exact g0_), l1, (fun W' hW => by obtain ⟨A0_, c0_, A1_, c1_, he, l0_, g0_, l1_, g1_⟩ := k77_open (h W' hW); injection (Option.some.inj (show some (Value.slice A1 x.f1.length c1) = some (Value.slice A1_ x.f1.length c1_) from congrArg (fun l => l[1]?) he)) with ha_ _ _; rw [ha_]; exact g1_)⟩
theorem k77_mkF (W : World) (ok : Nat → Prop) (x : S77) {A0 : Option Addr} {c0 : Nat} (l0 : x.f0.length ≤ c0) (g0 : Kd.F (Kd.int .u8) W ok A0 x.f0.length x.f0) {A1 : Option Addr} {c1 : Nat} (l1 : x.f1.length ≤ c1) (g1 : Kd.F (Kd.int .u8) W ok A1 x.f1.length x.f1) : Kd.FK k77 W ok x [.slice A0 x.f0.length c0, .slice A1 x.f1.length c1] := fun W2 hW => k77_mk W2 x l0 (g0 W2 hW) l1 (g1 W2 hW)
def rd_T77 (xs : List S77) (i : Int) : S77 := xs.getD i.toNat z77
theorem at_T77 {w : World} {A : Option Addr} {n : Nat} {xs : List S77} (h : Kd.C k77 w A n xs) (i : Int) (h0 : 0 ≤ i) (h1 : i < n) : ∃ ad A0 c0 A1 c1, A = some ad ∧ w.cell? (ad.add (i.toNat * 2)) = some (.slice A0 (rd_T77 xs i).f0.length c0) ∧ w.cell? ⟨(ad.add (i.toNat * 2)).block, (ad.add (i.toNat * 2)).off + 1, none⟩ = some (.slice A1 (rd_T77 xs i).f1.length c1) ∧ (rd_T77 xs i).f0.length ≤ c0 ∧ (Kd.int .u8).C w A0 (rd_T77 xs i).f0.length (rd_T77 xs i).f0 ∧ (rd_T77 xs i).f1.length ≤ c1 ∧ (Kd.int .u8).C w A1 (rd_T77 xs i).f1.length (rd_T77 xs i).f1 := by
 obtain ⟨ad, c, e, _, hK, hc0⟩ := Kd.C_get h z77 i h0 h1
 have hc : ∀ j u, c[j]? = some u → w.cell? (ad.add (i.toNat * 2 + j)) = some u := hc0
 obtain ⟨A0, c0, A1, c1, rfl, l0, g0, l1, g1⟩ := k77_open hK
 exact ⟨ad, A0, c0, A1, c1, e, hc 0 _ rfl, by rw [← add_field _ _ 1 (by omega)]; exact hc 1 _ rfl, l0, g0, l1, g1⟩
end Go.Proofs.YtpmefpdafkbphaaDoor.PQ
namespace Go.Proofs.YtpmefpdafkbphaaDoor.PQ
open HZ Go.RowKit Go.Proofs.YtpmefpdafkbphaaDoor HSha PS PR PT PB HNode PC HBytes8 Go.Proofs.YtpmefpdafkbphaaDoorW.PrintWords Go.Proofs.YtpmefpdafkbphaaDoorW.PrintLast Go.Proofs.YtpmefpdafkbphaaDoorW.PrintMore
attribute [local go_sem] max2_int min2_int max_two min_two max_three min_three max_four min_four
set_option linter.unusedVariables false
set_option linter.unusedSimpArgs false
def clash_root.f (k : Nat) (l0 : List ByteArray) : Option (ByteArray) := (tree_Root.f k l0).bind fun bt101 => (some bt101.1)
theorem clash_root.mono : ∀ a0 k, LeO (clash_root.f k a0) (clash_root.f (k + 1) a0) := by
 intro a0 k
 unfold clash_root.f
 repeat' first
   | (with_reducible exact tree_Root.mono _ _)
   | (with_reducible exact LeO.refl _)
   | (with_reducible exact LeO.none _)
   | (with_reducible refine LeO.ite ?_ ?_)
   | (with_reducible refine LeO.bind ?_ (fun _ => ?_))
set_option maxHeartbeats 8000000 in
set_option maxRecDepth 100000 in
theorem clash_root.calls (k : Nat) (A0 : Option Addr) (c0 : Nat) (l0 : List ByteArray) (r : ByteArray) (w : World) (hG_ : Aside0 (GW w)) (hr0 : Kd.C Kd.string w A0 l0.length l0) (hc0 : l0.length ≤ c0) (h : clash_root.f k l0 = some r) :
  Calls Tryd.prog 74 #[.slice A0 l0.length c0] w fun e w' => e = .returned (.string r) ∧ Below w.heap.size w w' := by
 have HR0 := zM hr0
 have HC0 := zM hc0
 clear hr0 hc0
 have HB := zM (Below.refl w.heap.size w)
 have H : ((tree_Root.f k l0).bind fun bt101 => (some bt101.1)) = some r := h
 clear h
 replace H := zB H
 obtain ⟨⟨t101, t102⟩, A20, H⟩ := H
 replace H : (some t101) = some r := H
 have A2 := zM A20
 clear A20
 obtain rfl := Option.some.inj H
 go_enter Tryd.func74, Tryd.ntmps74
 go_wp2_with (first | ((with_reducible refine gate_callee (f := 24) rfl ?_); refine goesL_ (some 7) rfl rfl Tryd.func24 (by kernel_rfl) rfl #[.slice A0 l0.length c0] rfl zm ?_; (with_reducible refine (tree_Root.calls k _ _ l0 t101 t102 _ ?side3 ?side1 ?side2 A2.out).mono ?_); (case side1 => repeat (first | exact HR0.out | (with_reducible refine Kd.C_alloc ?_ _) | (with_reducible refine Kd.C_drewN ?_ _) | (with_reducible refine Kd.C_drew ?_))); (case side2 => exact HC0.out); (case side3 => exact gw_step hG_ (zb HB.out)); rintro e w3 ⟨rfl, hb⟩; refine ⟨_, rfl, ?_⟩; replace HB := zS HB hb; (try clear hb)))
 go_ret
 exact ⟨by first | rfl | (simp [errW_none, errW_some] <;> rfl) | (simp [*, errW_none, errW_some] <;> rfl), zb HB.out⟩
def clash_halves.f (k : Nat) (l0 : List ByteArray) : Option (List Int) := (tree_Split.f k (l0.length : Int)).bind fun t103 => (if 0 ≤ t103 then (if t103 ≤ (l0.length : Int) then ((clash_root.f k (l0.take (t103 : Int).toNat)).bind fun t105 => ((clash_root.f k (l0.drop (t103 : Int).toNat)).bind fun t107 => ((seal_NodeBytes.f k t105 t107).bind fun t108 => (some t108)))) else (none)) else (none))
theorem clash_halves.mono : ∀ a0 k, LeO (clash_halves.f k a0) (clash_halves.f (k + 1) a0) := by
 intro a0 k
 unfold clash_halves.f
 repeat' first
   | (with_reducible exact clash_root.mono _ _)
   | (with_reducible exact seal_NodeBytes.mono _ _ _)
   | (with_reducible exact tree_Split.mono _ _)
   | (with_reducible exact LeO.refl _)
   | (with_reducible exact LeO.none _)
   | (with_reducible refine LeO.ite ?_ ?_)
   | (with_reducible refine LeO.bind ?_ (fun _ => ?_))
def clash_halves.T2 : Bool × List (List Nat × List Nat) := (true, [([], []), ([], []), ([0, 1], [0, 1]), ([2], [2]), ([], []), ([], []), ([4, 5], [4, 5]), ([6, 3], [6]), ([3, 7, 7], [3, 7]), ([8, 8, 0, 1, 2, 3, 4, 5, 6, 7, 8], [8])])
def clash_halves.B2 : List Nat := [0, 0, 3, 7, 0, 0, 48, 127, 255, 511]
theorem clash_halves.tab2 : rtab .any (opsOf Tryd.f60 2) = clash_halves.T2 := by kernel_rfl
theorem clash_halves.bits2 : waitsOk clash_halves.T2.2 clash_halves.B2 = true := by kernel_rfl
set_option maxHeartbeats 8000000 in
set_option maxRecDepth 100000 in
theorem clash_halves.calls (k : Nat) (A0 : Option Addr) (c0 : Nat) (l0 : List ByteArray) (r : List Int) (w : World) (hG_ : Aside0 (GW w)) (hr0 : Kd.C Kd.string w A0 l0.length l0) (hc0 : l0.length ≤ c0) (h : clash_halves.f k l0 = some r) :
  Calls Tryd.prog 60 #[.slice A0 l0.length c0] w fun e w' => ∃ v0_ : Value, e = .returned (v0_) ∧ Kd.R (Kd.int .u8) 5 w' w.heap.size (fun _ => True) v0_ r ∧ Below w.heap.size w w' := by
 have HR0 := zM hr0
 have HC0 := zM hc0
 clear hr0 hc0
 have HB := zM (Below.refl w.heap.size w)
 have H : ((tree_Split.f k (l0.length : Int)).bind fun t103 => (if 0 ≤ t103 then (if t103 ≤ (l0.length : Int) then ((clash_root.f k (l0.take (t103 : Int).toNat)).bind fun t105 => ((clash_root.f k (l0.drop (t103 : Int).toNat)).bind fun t107 => ((seal_NodeBytes.f k t105 t107).bind fun t108 => (some t108)))) else (none)) else (none))) = some r := h
 clear h
 replace H := zB H
 obtain ⟨t103, A20, H⟩ := H
 replace H : (if 0 ≤ t103 then (if t103 ≤ (l0.length : Int) then ((clash_root.f k (l0.take (t103 : Int).toNat)).bind fun t105 => ((clash_root.f k (l0.drop (t103 : Int).toNat)).bind fun t107 => ((seal_NodeBytes.f k t105 t107).bind fun t108 => (some t108)))) else (none)) else (none)) = some r := H
 have A2 := zM A20
 clear A20
 by_cases c3 : 0 ≤ t103
 ·rw [if_pos c3] at H
  have c3b0 := eq_true c3; have c3b1 : decide (0 ≤ t103) = true := decide_eq_true c3; clear c3
  by_cases c4 : t103 ≤ (l0.length : Int)
  ·rw [if_pos c4] at H
   have c4b0 := eq_true c4; have c4b1 : decide (t103 ≤ (l0.length : Int)) = true := decide_eq_true c4; clear c4; replace H := zB H; obtain ⟨t105, A50, H⟩ := H; (replace H : ((clash_root.f k (l0.drop (t103 : Int).toNat)).bind fun t107 => ((seal_NodeBytes.f k t105 t107).bind fun t108 => (some t108))) = some r := H); have A5 := zM A50; clear A50; have c6b0 := eq_true (zd : 0 ≤ t103); have c7b0 := eq_true (zd : t103 ≤ (l0.length : Int)); replace H := zB H; obtain ⟨t107, A80, H⟩ := H; (replace H : ((seal_NodeBytes.f k t105 t107).bind fun t108 => (some t108)) = some r := H); have A8 := zM A80; clear A80; replace H := zB H; obtain ⟨t108, A90, H⟩ := H; replace H : (some t108) = some r := H; have A9 := zM A90; clear A90; obtain rfl := Option.some.inj H; go_enter Tryd.func60, Tryd.ntmps60; (try go_wp2_with (first | ((with_reducible refine gate_callee (f := 49) rfl ?_); refine goesL_ (some 6) rfl rfl Tryd.func49 (by kernel_rfl) rfl #[.int .i64 (l0.length : Int)] rfl zm ?_; (with_reducible refine (tree_Split.calls k (l0.length : Int) t103 _ A2.out).mono ?_); rintro e w' ⟨rfl, ⟨nd, rfl⟩⟩; refine ⟨_, rfl, ?_⟩))); (try simp only [World.drewN_drewN]); generalize hq_ : World.drewN w _ = w10; (have n0_ : Aside0 (Below w.heap.size w w10) := ⟨by rw [← hq_]; exact pw_below_drewN HB.out _⟩); clear hq_ HB; have HB := n0_; clear n0_; replace HB := zM (below_drew1 HB.out); obtain ⟨i012, hi012, _, hsz12, _⟩ := info_parts info9; obtain ⟨hcut12, hA12, hC12⟩ := print_take_of (P := Tryd.prog) Value.string (⟨#[]⟩ : ByteArray) 22 9 .i64 Tryd.underlying22 hi012 hsz12 A0 c0 l0 t103 (zd) (zd) HC0.out; (have HR104 := zM (Kd.C_of_reads (h1 := fun _ => rfl) (hA12 _ (Kd.reads_of_C HR0.out)))); have HC104 := zM hC12; clear hA12 hC12 hi012 hsz12; obtain ⟨i013, hi013, _, hsz13, _⟩ := info_parts info9; obtain ⟨A13, hcut13, hA13, hC13⟩ := print_drop_of (P := Tryd.prog) Value.string (⟨#[]⟩ : ByteArray) 22 9 .i64 Tryd.underlying22 hi013 hsz13 A0 c0 l0 t103 (zd) (zd) HC0.out; (have HR106 := zM (Kd.C_of_reads (h1 := fun _ => rfl) (hA13 _ (Kd.reads_of_C HR0.out)))); have HC106 := zM hC13; clear hA13 hC13 hi013 hsz13; (refine start_ (n := 10) (S := fun w' => True) (ds := []) #[false, false, false, false, false, false, false, false, false, false] (by kernel_rfl) rfl rfl trivial (fun hHeld => ?_); refine with_tabW clash_halves.tab2 clash_halves.bits2 (fun HT_ HW_ => ?_)); (generalize w10.drew = w11 at HB hHeld ⊢); (refine HBulk.bulkT (fuel := 4) HT_.out HW_.out [(0, some 7, false), (1, some 8, false), (2, some 9, false), (4, some 11, false), (5, some 12, false), (6, some 13, false)] #[true, true, true, false, true, true, true, false, false, false] (a' := ?_) (by kernel_rfl) rfl hHeld ?_ ?_); rotate_left
   ·repeat
     (refine HBulk.RunsM.cons (v := ?_) (a1 := ?_) rfl rfl (fun _ _ _ h => h) (by rfl) ?_ ?_ ?_); rotate_left
     ·intro w' hS_
      go_simp; (with_reducible rfl)
     rotate_left
     ·simp only [Act.put, zl, i64_w, i32_w]
      rfl
    exact HBulk.RunsM.nil
   (refine one_ (i := 3) (N := some 10) #[true, true, true, true, true, true, true, false, false, false] rfl rfl (one_of HT_.out (by kernel_rfl)) (by decide) (fun K hK => ?_)); (refine goes_ Tryd.func74 (by kernel_rfl) rfl #[.slice A0 (l0.take (t103 : Int).toNat).length c0] (by rfl) rfl rfl (by (try simp only [List.map_toArray, List.map_cons, List.map_nil]); first | done | (rw [show (l0.take (t103 : Int).toNat).length = t103.toNat from (by rw [List.length_take]; have h_ : (t103 : Int) ≤ (l0.length : Int) := zd; omega)] <;> rfl) | rfl | (simp only [List.length_drop, List.length_take]; rfl)) ?_); (with_reducible refine (clash_root.calls k _ _ (l0.take (t103 : Int).toNat) t105 _ ?side3 ?side1 ?side2 A5.out).mono ?_); (case side1 => exact zc (Kd.C_below HR104.out HB.out)); (case side2 => exact HC104.out); (case side3 => exact gw_step hG_ (zb HB.out)); rintro e w14 ⟨rfl, hb⟩; refine ⟨_, rfl, ?_⟩; replace HB := zS HB hb; (try clear hb); (refine hK.out _ _ trivial (fun hHeld => ?_)); clear hK K; refine norm_ (a' := ?_) ?_ ?_; rotate_left
   ·show Act.put _ (some 10) _ = _
    simp only [Act.put, zl, i64_w, i32_w]; rfl
   (refine one_ (i := 7) (N := some 14) #[true, true, true, true, true, true, true, true, false, false] rfl rfl (one_of HT_.out (by kernel_rfl)) (by decide) (fun K hK => ?_)); (refine goes_ Tryd.func74 (by kernel_rfl) rfl #[.slice A13 (l0.drop (t103 : Int).toNat).length (c0 - t103.toNat)] (by rfl) rfl rfl (by (try simp only [List.map_toArray, List.map_cons, List.map_nil]); first | done | (rw [show (l0.drop (t103 : Int).toNat).length = (l0.length - t103.toNat) from List.length_drop] <;> rfl) | rfl | (simp only [List.length_drop, List.length_take]; rfl)) ?_); (with_reducible refine (clash_root.calls k _ _ (l0.drop (t103 : Int).toNat) t107 _ ?side3 ?side1 ?side2 A8.out).mono ?_); (case side1 => exact zc (Kd.C_below HR106.out HB.out)); (case side2 => exact HC106.out); (case side3 => exact gw_step hG_ (zb HB.out)); rintro e w15 ⟨rfl, hb⟩; refine ⟨_, rfl, ?_⟩; replace HB := zS HB hb; (try clear hb); (refine hK.out _ _ trivial (fun hHeld => ?_)); clear hK K; refine norm_ (a' := ?_) ?_ ?_; rotate_left
   ·show Act.put _ (some 14) _ = _
    simp only [Act.put, zl, i64_w, i32_w]; rfl
   (refine one_ (i := 8) (N := some 15) #[true, true, true, true, true, true, true, true, true, false] rfl rfl (one_of HT_.out (by kernel_rfl)) (by decide) (fun K hK => ?_)); (refine goes_ Tryd.func59 (by kernel_rfl) rfl #[.string t105, .string t107] (by rfl) rfl rfl zm ?_); (with_reducible refine (seal_NodeBytes.calls k t105 t107 t108 _ A9.out).mono ?_); rintro e w16 ⟨v109, rfl, ho0, hb⟩; refine ⟨_, rfl, ?_⟩; have HO110 := zL ho0 HB; replace HB := zS HB hb; (try clear hb); (try clear ho0); (refine hK.out _ _ trivial (fun hHeld => ?_)); clear hK K; refine norm_ (a' := ?_) ?_ ?_; rotate_left
   ·show Act.put _ (some 15) _ = _
    simp only [Act.put, zl, i64_w, i32_w]; rfl
   (refine pure_ (i := 9) (N := some 2) (v := ?_) (a' := ?_) #[true, true, true, true, true, true, true, true, true, true] rfl rfl (any_of HT_.out (by kernel_rfl)) (fun _ _ _ h => h) (Or.inl ⟨by rfl, ?_⟩) ?_ ?_); rotate_left
   ·intro w'
    go_simp; (with_reducible rfl)
   rotate_left
   ·simp only [Act.put, zl, i64_w, i32_w]
    rfl
   (refine done_ (done_of HT_.out (by kernel_rfl)) ?_); (try go_wp2); go_ret; (exact ⟨_, by first | rfl | (simp [errW_none, errW_some] <;> rfl) | (simp [*, errW_none, errW_some] <;> rfl), zr HO110.out, zb HB.out⟩)
  ·rw [if_neg c4] at H
   exact absurd H (by simp)
 ·rw [if_neg c3] at H
  exact absurd H (by simp)
def clash_first.l0 : Nat → List (S77) → Int → Int → Option (List Int × List Int × Bool)
 | 0, _, _, _ => none
 | k + 1, x8, x9, x10 => if x10 < x9 then (if 0 ≤ x10 then (if x10 < (x8.length : Int) then ((seal_Between.f ((rd_T77 x8 x10).f0) ((rd_T77 x8 x10).f1)).bind fun bt114 => (if bt114.2.2 = true then (some (bt114.1, bt114.2.1, true)) else (clash_first.l0 k x8 x9 (wrap64 (x10 + 1))))) else (none)) else (none)) else (some (([] : List Int), ([] : List Int), false))
def clash_first.f (k : Nat) (l0 : List (S77)) : Option (List Int × List Int × Bool) := clash_first.l0 k l0 (l0.length : Int) 0
theorem clash_first.mono_l : ∀ k, (∀ y0 y1 y2, LeO (clash_first.l0 k y0 y1 y2) (clash_first.l0 (k + 1) y0 y1 y2))
 | 0 => fun _ _ _ r h => by simp [clash_first.l0] at h
 | k + 1 => by
  have ih0 := clash_first.mono_l k
  ·intro y0 y1 y2
   unfold clash_first.l0
   repeat' first
   | (with_reducible exact ih0 _ _ _)
   | (with_reducible exact LeO.refl _)
   | (with_reducible exact LeO.none _)
   | (with_reducible refine LeO.ite ?_ ?_)
   | (with_reducible refine LeO.bind ?_ (fun _ => ?_))
theorem clash_first.mono : ∀ a0 k, LeO (clash_first.f k a0) (clash_first.f (k + 1) a0) := by
 intro a0 k
 have ih0 := clash_first.mono_l k
 unfold clash_first.f
 repeat' first
   | (with_reducible exact ih0 _ _ _)
   | (with_reducible exact LeO.refl _)
   | (with_reducible exact LeO.none _)
   | (with_reducible refine LeO.ite ?_ ?_)
   | (with_reducible refine LeO.bind ?_ (fun _ => ?_))
set_option maxHeartbeats 8000000 in
set_option maxRecDepth 100000 in
theorem clash_first.calls (k : Nat) (A0 : Option Addr) (c0 : Nat) (l0 : List (S77)) (r1 : List Int) (r2 : List Int) (r3 : Bool) (w : World) (hG_ : Aside0 (GW w)) (hr0 : Kd.C k77 w A0 l0.length l0) (hc0 : l0.length ≤ c0) (h : clash_first.f k l0 = some (r1, r2, r3)) :
  Calls Tryd.prog 61 #[.slice A0 l0.length c0] w fun e w' => ∃ v0_ v1_ : Value, e = .returned (.tuple #[.agg #[v0_, v1_], .bool r3]) ∧ Kd.R (Kd.int .u8) 5 w' w.heap.size (fun k_ => some k_ ≠ (v1_ : Value).ownBlock) v0_ r1 ∧ Kd.R (Kd.int .u8) 5 w' w.heap.size (fun k_ => some k_ ≠ (v0_ : Value).ownBlock) v1_ r2 ∧ Below w.heap.size w w' := by
 have hu44 := Tryd.underlying44
 have hu77 := Tryd.underlying77
 have HR0 := zM hr0
 have HC0 := zM hc0
 clear hr0 hc0
 have HB := zM (Below.refl w.heap.size w)
 have H : (clash_first.l0 k l0 (l0.length : Int) 0) = some (r1, r2, r3) := h
 clear h
 have H' := zM H
 clear H
 go_enter Tryd.func61, Tryd.ntmps61
 go_wp2_with (first | ((with_reducible refine gate_dst (N := 2) rfl ?_); refine box_event ?hg (N := 2) ?hd (cs := #[.slice none 0 0, .slice none 0 0]) (t := 44) ?hr ?_; (case hd => rfl); (case hg => rfl); (case hr => first | (go_simp; done) | (go_simp; rfl)); intro gb111 hg w2 hbox hb; have BK111 := zM (hbox); have GW111 := zM ((by rw [hg]; exact (below_size (zb HB.out)) : w.heap.size ≤ gb111)); have GE111 := zM ((by rw [hg]; exact (below_size (zb HB.out)) : w.heap.size ≤ gb111)); replace HB := zS HB hb; clear hb hbox hg))
 go_loopg [10] k (fun kq v10 w' => ∃ (x10_1 : Int), v10 = .int .i64 x10_1 ∧ Aside0 (clash_first.l0 kq l0 (l0.length : Int) x10_1 = some (r1, r2, r3)) ∧ Aside0 (kq ≤ k) ∧ Aside0 (w'.heap[gb111]? = some (.cells #[(.slice none 0 0), (.slice none 0 0)] 44 (0, 0))) ∧ Aside0 (Below w.heap.size w w'))
 case atStart => exact ⟨(0), zz, H', ⟨Nat.le_refl _⟩, ⟨by (with_reducible repeat (first | refine blk_drewN ?_ _ | refine blk_drew ?_ | refine blk_alloc ?_ _)); exact BK111.out⟩, ⟨zb1 HB.out GE111.out⟩⟩
 case round =>
  clear H'; (try clear p2); obtain ⟨x10_1, rfl, HA, HK1, BK111, HB⟩ := hrel
  cases gk with
  | zero => exact absurd HA.out (by simp [clash_first.l0])
  | succ k1 =>
   have H := HA.out; clear HA; simp only [clash_first.l0] at H
   by_cases c3 : x10_1 < (l0.length : Int)
   ·rw [if_pos c3] at H
    have c3b0 : decide (x10_1 < (l0.length : Int)) = true := decide_eq_true c3; clear c3
    by_cases c4 : 0 ≤ x10_1
    ·rw [if_pos c4] at H
     have c4b0 : decide (0 ≤ x10_1) = true := decide_eq_true c4; clear c4
     by_cases c5 : x10_1 < (l0.length : Int)
     ·rw [if_pos c5] at H
      have c5b0 : decide (x10_1 < (l0.length : Int)) = true := decide_eq_true c5; clear c5; replace H := zB H; obtain ⟨⟨t114, t117, t120⟩, A60, H⟩ := H; (replace H : (if t120 = true then (some (t114, t117, true)) else (clash_first.l0 k1 l0 (l0.length : Int) (wrap64 (x10_1 + 1)))) = some (r1, r2, r3) := H); have A6 := zM A60; clear A60
      by_cases c7 : t120 = true
      ·subst c7
       (have H1 : (some (t114, t117, true)) = some (r1, r2, r3) := by rw [if_pos rfl] at H; exact H); clear H; have H := H1; clear H1; simp only [Option.some.injEq, Prod.mk.injEq] at H; obtain ⟨rfl, rfl, rfl⟩ := H; have p112 : 0 ≤ (x10_1 : Int) := zd; have q112 : x10_1 < (l0.length : Int) := zd; obtain ⟨ad112, A112_0, c112_0, A112_1, c112_1, e112, hx112_0, hx112_1, hl112_0, hi112_0, hl112_1, hi112_1⟩ := at_T77 HR0.out x10_1 p112 q112; cases e112; replace hx112_0 := zw HB hx112_0; replace hx112_1 := zw HB hx112_1; have HR112_0 := zM hi112_0; have HC112_0 := zM hl112_0; clear hi112_0 hl112_0; have HR112_1 := zM hi112_1; have HC112_1 := zM hl112_1; clear hi112_1 hl112_1; replace p112 := eq_true p112; replace q112 := eq_true q112; (go_wp2_with (first | ((with_reducible refine gate_dst (N := 5) rfl ?_); refine box_event ?hg (N := 5) ?hd (cs := #[.slice none 0 0, .slice none 0 0]) (t := 77) ?hr ?_; (case hd => rfl); (case hg => rfl); (case hr => first | (go_simp; done) | (go_simp; rfl)); intro gb113 hg w8 hbox hb; have BK113 := zM (hbox); have GW113 := zM ((by rw [hg]; exact (below_size (zb1 HB.out GE111.out)) : w.heap.size ≤ gb113)); have GE113 := zM ((by rw [hg]; exact (below_size (zb1 HB.out GE111.out)) : w.heap.size ≤ gb113)); replace HB := zS1 HB GE111 hb; have NB111_113 := zM ((by rw [hg]; exact Nat.ne_of_lt (blk_lt (g := gb111) (o := .cells #[.slice none 0 0, .slice none 0 0] 44 (0, 0)) (zk BK111.out)) : gb111 ≠ gb113)); have NB113_111 := zM ((by rw [hg]; exact Nat.ne_of_gt (blk_lt (g := gb111) (o := .cells #[.slice none 0 0, .slice none 0 0] 44 (0, 0)) (zk BK111.out)) : gb113 ≠ gb111)); replace BK111 := zK BK111 hb; clear hb hbox hg; have hnb9 := NB113_111.out; have hnc9 := NB111_113.out; have hcz10_0 : w8.cell? ⟨gb113, 0, none⟩ = some (.slice none 0 0) := (blk_cell BK113.out 0).trans rfl; have hcz10_1 : w8.cell? ⟨gb113, 1, none⟩ = some (.slice none 0 0) := (blk_cell BK113.out 1).trans rfl; have hfz10_0 := blk_frozen BK113.out 0; have hfz10_1 := blk_frozen BK113.out 1) | ((with_reducible refine gate_callee (f := 87) rfl ?_); refine goesL_ (some 19) rfl rfl Tryd.func87 (by kernel_rfl) rfl #[.slice A112_0 ((rd_T77 l0 x10_1).f0).length c112_0, .slice A112_1 ((rd_T77 l0 x10_1).f1).length c112_1] rfl zm ?_; (with_reducible refine (seal_Between.calls _ _ ((rd_T77 l0 x10_1).f0) _ _ ((rd_T77 l0 x10_1).f1) t114 t117 true _ ?side5 ?side1 ?side2 ?side3 ?side4 A6.out).mono ?_); (case side1 => exact Kd.C_below HR112_0.out (zb2 HB.out GE111.out GE113.out)); (case side2 => exact HC112_0.out); (case side3 => exact Kd.C_below HR112_1.out (zb2 HB.out GE111.out GE113.out)); (case side4 => exact HC112_1.out); (case side5 => exact gw_step hG_ (zb2 HB.out GE111.out GE113.out)); rintro e w11 ⟨v115, v118, rfl, ho0, ho1, hb⟩; refine ⟨_, rfl, ?_⟩; have HO116 := zM (Kd.R_lower ho0 (below_size (zb2 HB.out GE111.out GE113.out))); have HO119 := zM (Kd.R_lower ho1 (below_size (zb2 HB.out GE111.out GE113.out))); replace BK111 := zM (blk_below (g := gb111) (o := .cells #[.slice none 0 0, .slice none 0 0] 44 (0, 0)) (by (with_reducible repeat (first | refine blk_drewN ?_ _ | refine blk_drew ?_ | refine blk_alloc ?_ _)); refine blk_far ?_ NB111_113.out _; (with_reducible repeat (first | refine blk_drewN ?_ _ | refine blk_drew ?_ | refine blk_alloc ?_ _)); refine blk_far ?_ NB111_113.out _; (with_reducible repeat (first | refine blk_drewN ?_ _ | refine blk_drew ?_ | refine blk_alloc ?_ _)); exact BK111.out) hb); replace BK113 := zM (blk_below (g := gb113) (o := .cells #[.slice A112_0 ((rd_T77 l0 x10_1).f0).length c112_0, .slice A112_1 ((rd_T77 l0 x10_1).f1).length c112_1] 77 (0, 0)) (by (with_reducible repeat (first | refine blk_drewN ?_ _ | refine blk_drew ?_ | refine blk_alloc ?_ _)); refine blk_put (cs := #[.slice A112_0 ((rd_T77 l0 x10_1).f0).length c112_0, .slice none 0 0]) ?_ 1 _ rfl; (with_reducible repeat (first | refine blk_drewN ?_ _ | refine blk_drew ?_ | refine blk_alloc ?_ _)); refine blk_put (cs := #[.slice none 0 0, .slice none 0 0]) ?_ 0 _ rfl; (with_reducible repeat (first | refine blk_drewN ?_ _ | refine blk_drew ?_ | refine blk_alloc ?_ _)); exact BK113.out) hb); replace HB := zS2 HB GE111 GE113 hb; (try clear hb); (try clear ho0); (try clear ho1)) | ((with_reducible refine gate_dst (N := 6) rfl ?_); refine box_event ?hg (N := 6) ?hd (cs := #[.slice none 0 0, .slice none 0 0]) (t := 44) ?hr ?_; (case hd => rfl); (case hg => rfl); (case hr => first | (go_simp; done) | (go_simp; rfl)); intro gb121 hg w12 hbox hb; replace HO116 := zR HO116 hb; replace HO119 := zR HO119 hb; have BK121 := zM (hbox); have GW121 := zM ((by rw [hg]; exact (below_size (zb2 HB.out GE111.out GE113.out)) : w.heap.size ≤ gb121)); have GE121 := zM ((by rw [hg]; exact (below_size (zb2 HB.out GE111.out GE113.out)) : w.heap.size ≤ gb121)); replace HB := zS2 HB GE111 GE113 hb; have NB111_121 := zM ((by rw [hg]; exact Nat.ne_of_lt (blk_lt (g := gb111) (o := .cells #[.slice none 0 0, .slice none 0 0] 44 (0, 0)) (zk BK111.out)) : gb111 ≠ gb121)); have NB121_111 := zM ((by rw [hg]; exact Nat.ne_of_gt (blk_lt (g := gb111) (o := .cells #[.slice none 0 0, .slice none 0 0] 44 (0, 0)) (zk BK111.out)) : gb121 ≠ gb111)); replace BK111 := zK BK111 hb; have NB113_121 := zM ((by rw [hg]; exact Nat.ne_of_lt (blk_lt (g := gb113) (o := .cells #[.slice A112_0 ((rd_T77 l0 x10_1).f0).length c112_0, .slice A112_1 ((rd_T77 l0 x10_1).f1).length c112_1] 77 (0, 0)) (zk BK113.out)) : gb113 ≠ gb121)); have NB121_113 := zM ((by rw [hg]; exact Nat.ne_of_gt (blk_lt (g := gb113) (o := .cells #[.slice A112_0 ((rd_T77 l0 x10_1).f0).length c112_0, .slice A112_1 ((rd_T77 l0 x10_1).f1).length c112_1] 77 (0, 0)) (zk BK113.out)) : gb121 ≠ gb113)); replace BK113 := zK BK113 hb; clear hb hbox hg; obtain ⟨Ao13, co13, eo13⟩ := Kd.R_slice HO116.out; subst eo13; have hnb14 := NB121_111.out; have hnc14 := NB111_121.out; have hnb15 := NB121_113.out; have hnc15 := NB113_121.out; have hcz16_0 : w12.cell? ⟨gb121, 0, none⟩ = some (.slice none 0 0) := (blk_cell BK121.out 0).trans rfl; have hcz16_1 : w12.cell? ⟨gb121, 1, none⟩ = some (.slice none 0 0) := (blk_cell BK121.out 1).trans rfl; have hfz16_0 := blk_frozen BK121.out 0; have hfz16_1 := blk_frozen BK121.out 1; obtain ⟨Ao17, co17, eo17⟩ := Kd.R_slice HO119.out; subst eo17; have hcz18_0 : w12.cell? ⟨gb111, 0, none⟩ = some (.slice none 0 0) := (blk_cell BK111.out 0).trans rfl; have hcz18_1 : w12.cell? ⟨gb111, 1, none⟩ = some (.slice none 0 0) := (blk_cell BK111.out 1).trans rfl; have hfz18_0 := blk_frozen BK111.out 0; have hfz18_1 := blk_frozen BK111.out 1))); (refine bodyPost_ret (results_ct rfl _ _ gb111 44 #[.slice Ao13 t114.length co13, .slice Ao17 t117.length co17] (0, 0) _ rfl (by (with_reducible repeat (first | refine blk_drewN ?_ _ | refine blk_drew ?_ | refine blk_alloc ?_ _)); refine blk_put (cs := #[.slice Ao13 t114.length co13, .slice none 0 0]) ?_ 1 _ rfl; (with_reducible repeat (first | refine blk_drewN ?_ _ | refine blk_drew ?_ | refine blk_alloc ?_ _)); refine blk_put (cs := #[.slice none 0 0, .slice none 0 0]) ?_ 0 _ rfl; (with_reducible repeat (first | refine blk_drewN ?_ _ | refine blk_drew ?_ | refine blk_alloc ?_ _)); refine blk_far ?_ NB111_121.out _; (with_reducible repeat (first | refine blk_drewN ?_ _ | refine blk_drew ?_ | refine blk_alloc ?_ _)); refine blk_far ?_ NB111_121.out _; (with_reducible repeat (first | refine blk_drewN ?_ _ | refine blk_drew ?_ | refine blk_alloc ?_ _)); exact BK111.out) Tryd.underlying44 rfl (by kernel_rfl)) rfl ?_); (exact ⟨_, _, by first | rfl | (simp [errW_none, errW_some] <;> rfl) | (simp [*, errW_none, errW_some] <;> rfl), by (with_reducible repeat (first | apply Kd.R_alloc | apply Kd.R_drewN | apply Kd.R_drew)); exact Kd.R_mono (Kd.R_far (p := ⟨gb111, 1, none⟩) (Kd.R_far (p := ⟨gb111, 0, none⟩) (Kd.R_far (p := ⟨gb121, 1, none⟩) (Kd.R_far (p := ⟨gb121, 0, none⟩) (zT (zT HO116.out BK121) BK111) (fun _ hk => hk.1.2) (.slice Ao13 t114.length co13)) (fun _ hk => hk.1.2) (.slice Ao17 t117.length co17)) (fun _ hk => hk.2) (.slice Ao13 t114.length co13)) (fun _ hk => hk.2) (.slice Ao17 t117.length co17)) (fun _ hk => hk.1.1), by (with_reducible repeat (first | apply Kd.R_alloc | apply Kd.R_drewN | apply Kd.R_drew)); exact Kd.R_mono (Kd.R_far (p := ⟨gb111, 1, none⟩) (Kd.R_far (p := ⟨gb111, 0, none⟩) (Kd.R_far (p := ⟨gb121, 1, none⟩) (Kd.R_far (p := ⟨gb121, 0, none⟩) (zT (zT HO119.out BK121) BK111) (fun _ hk => hk.1.2) (.slice Ao13 t114.length co13)) (fun _ hk => hk.1.2) (.slice Ao17 t117.length co17)) (fun _ hk => hk.2) (.slice Ao13 t114.length co13)) (fun _ hk => hk.2) (.slice Ao17 t117.length co17)) (fun _ hk => hk.1.1), zb3 HB.out GE111.out GE113.out GE121.out⟩)
      ·replace c7 := Bool.eq_false_iff.mpr c7
       subst c7; (have H1 : (clash_first.l0 k1 l0 (l0.length : Int) (wrap64 (x10_1 + 1))) = some (r1, r2, r3) := by rw [if_neg (show ¬ (false = true) by decide)] at H; exact H); clear H; have H := H1; clear H1; have H' := zM H; clear H; have p112 : 0 ≤ (x10_1 : Int) := zd; have q112 : x10_1 < (l0.length : Int) := zd; obtain ⟨ad112, A112_0, c112_0, A112_1, c112_1, e112, hx112_0, hx112_1, hl112_0, hi112_0, hl112_1, hi112_1⟩ := at_T77 HR0.out x10_1 p112 q112; cases e112; replace hx112_0 := zw HB hx112_0; replace hx112_1 := zw HB hx112_1; have HR112_0 := zM hi112_0; have HC112_0 := zM hl112_0; clear hi112_0 hl112_0; have HR112_1 := zM hi112_1; have HC112_1 := zM hl112_1; clear hi112_1 hl112_1; replace p112 := eq_true p112; replace q112 := eq_true q112; (go_wp2_with (first | ((with_reducible refine gate_dst (N := 5) rfl ?_); refine box_event ?hg (N := 5) ?hd (cs := #[.slice none 0 0, .slice none 0 0]) (t := 77) ?hr ?_; (case hd => rfl); (case hg => rfl); (case hr => first | (go_simp; done) | (go_simp; rfl)); intro gb113 hg w19 hbox hb; have BK113 := zM (hbox); have GW113 := zM ((by rw [hg]; exact (below_size (zb1 HB.out GE111.out)) : w.heap.size ≤ gb113)); have GE113 := zM ((by rw [hg]; exact (below_size (zb1 HB.out GE111.out)) : w.heap.size ≤ gb113)); replace HB := zS1 HB GE111 hb; have NB111_113 := zM ((by rw [hg]; exact Nat.ne_of_lt (blk_lt (g := gb111) (o := .cells #[.slice none 0 0, .slice none 0 0] 44 (0, 0)) (zk BK111.out)) : gb111 ≠ gb113)); have NB113_111 := zM ((by rw [hg]; exact Nat.ne_of_gt (blk_lt (g := gb111) (o := .cells #[.slice none 0 0, .slice none 0 0] 44 (0, 0)) (zk BK111.out)) : gb113 ≠ gb111)); replace BK111 := zK BK111 hb; clear hb hbox hg; have hnb20 := NB113_111.out; have hnc20 := NB111_113.out; have hcz21_0 : w19.cell? ⟨gb113, 0, none⟩ = some (.slice none 0 0) := (blk_cell BK113.out 0).trans rfl; have hcz21_1 : w19.cell? ⟨gb113, 1, none⟩ = some (.slice none 0 0) := (blk_cell BK113.out 1).trans rfl; have hfz21_0 := blk_frozen BK113.out 0; have hfz21_1 := blk_frozen BK113.out 1) | ((with_reducible refine gate_callee (f := 87) rfl ?_); refine goesL_ (some 19) rfl rfl Tryd.func87 (by kernel_rfl) rfl #[.slice A112_0 ((rd_T77 l0 x10_1).f0).length c112_0, .slice A112_1 ((rd_T77 l0 x10_1).f1).length c112_1] rfl zm ?_; (with_reducible refine (seal_Between.calls _ _ ((rd_T77 l0 x10_1).f0) _ _ ((rd_T77 l0 x10_1).f1) t114 t117 false _ ?side5 ?side1 ?side2 ?side3 ?side4 A6.out).mono ?_); (case side1 => exact Kd.C_below HR112_0.out (zb2 HB.out GE111.out GE113.out)); (case side2 => exact HC112_0.out); (case side3 => exact Kd.C_below HR112_1.out (zb2 HB.out GE111.out GE113.out)); (case side4 => exact HC112_1.out); (case side5 => exact gw_step hG_ (zb2 HB.out GE111.out GE113.out)); rintro e w22 ⟨v115, v118, rfl, ho0, ho1, hb⟩; refine ⟨_, rfl, ?_⟩; have HO116 := zM (Kd.R_lower ho0 (below_size (zb2 HB.out GE111.out GE113.out))); have HO119 := zM (Kd.R_lower ho1 (below_size (zb2 HB.out GE111.out GE113.out))); replace BK111 := zM (blk_below (g := gb111) (o := .cells #[.slice none 0 0, .slice none 0 0] 44 (0, 0)) (by (with_reducible repeat (first | refine blk_drewN ?_ _ | refine blk_drew ?_ | refine blk_alloc ?_ _)); refine blk_far ?_ NB111_113.out _; (with_reducible repeat (first | refine blk_drewN ?_ _ | refine blk_drew ?_ | refine blk_alloc ?_ _)); refine blk_far ?_ NB111_113.out _; (with_reducible repeat (first | refine blk_drewN ?_ _ | refine blk_drew ?_ | refine blk_alloc ?_ _)); exact BK111.out) hb); replace BK113 := zM (blk_below (g := gb113) (o := .cells #[.slice A112_0 ((rd_T77 l0 x10_1).f0).length c112_0, .slice A112_1 ((rd_T77 l0 x10_1).f1).length c112_1] 77 (0, 0)) (by (with_reducible repeat (first | refine blk_drewN ?_ _ | refine blk_drew ?_ | refine blk_alloc ?_ _)); refine blk_put (cs := #[.slice A112_0 ((rd_T77 l0 x10_1).f0).length c112_0, .slice none 0 0]) ?_ 1 _ rfl; (with_reducible repeat (first | refine blk_drewN ?_ _ | refine blk_drew ?_ | refine blk_alloc ?_ _)); refine blk_put (cs := #[.slice none 0 0, .slice none 0 0]) ?_ 0 _ rfl; (with_reducible repeat (first | refine blk_drewN ?_ _ | refine blk_drew ?_ | refine blk_alloc ?_ _)); exact BK113.out) hb); replace HB := zS2 HB GE111 GE113 hb; (try clear hb); (try clear ho0); (try clear ho1)) | ((with_reducible refine gate_dst (N := 6) rfl ?_); refine box_event ?hg (N := 6) ?hd (cs := #[.slice none 0 0, .slice none 0 0]) (t := 44) ?hr ?_; (case hd => rfl); (case hg => rfl); (case hr => first | (go_simp; done) | (go_simp; rfl)); intro gb121 hg w23 hbox hb; replace HO116 := zR HO116 hb; replace HO119 := zR HO119 hb; have BK121 := zM (hbox); have GW121 := zM ((by rw [hg]; exact (below_size (zb2 HB.out GE111.out GE113.out)) : w.heap.size ≤ gb121)); have GE121 := zM ((by rw [hg]; exact (below_size (zb2 HB.out GE111.out GE113.out)) : w.heap.size ≤ gb121)); replace HB := zS2 HB GE111 GE113 hb; have NB111_121 := zM ((by rw [hg]; exact Nat.ne_of_lt (blk_lt (g := gb111) (o := .cells #[.slice none 0 0, .slice none 0 0] 44 (0, 0)) (zk BK111.out)) : gb111 ≠ gb121)); have NB121_111 := zM ((by rw [hg]; exact Nat.ne_of_gt (blk_lt (g := gb111) (o := .cells #[.slice none 0 0, .slice none 0 0] 44 (0, 0)) (zk BK111.out)) : gb121 ≠ gb111)); replace BK111 := zK BK111 hb; have NB113_121 := zM ((by rw [hg]; exact Nat.ne_of_lt (blk_lt (g := gb113) (o := .cells #[.slice A112_0 ((rd_T77 l0 x10_1).f0).length c112_0, .slice A112_1 ((rd_T77 l0 x10_1).f1).length c112_1] 77 (0, 0)) (zk BK113.out)) : gb113 ≠ gb121)); have NB121_113 := zM ((by rw [hg]; exact Nat.ne_of_gt (blk_lt (g := gb113) (o := .cells #[.slice A112_0 ((rd_T77 l0 x10_1).f0).length c112_0, .slice A112_1 ((rd_T77 l0 x10_1).f1).length c112_1] 77 (0, 0)) (zk BK113.out)) : gb121 ≠ gb113)); replace BK113 := zK BK113 hb; clear hb hbox hg; obtain ⟨Ao24, co24, eo24⟩ := Kd.R_slice HO116.out; subst eo24; have hnb25 := NB121_111.out; have hnc25 := NB111_121.out; have hnb26 := NB121_113.out; have hnc26 := NB113_121.out; have hcz27_0 : w23.cell? ⟨gb121, 0, none⟩ = some (.slice none 0 0) := (blk_cell BK121.out 0).trans rfl; have hcz27_1 : w23.cell? ⟨gb121, 1, none⟩ = some (.slice none 0 0) := (blk_cell BK121.out 1).trans rfl; have hfz27_0 := blk_frozen BK121.out 0; have hfz27_1 := blk_frozen BK121.out 1; obtain ⟨Ao28, co28, eo28⟩ := Kd.R_slice HO119.out; subst eo28))); go_roundg k1
       case measure => have := HK1.out; omega
       case rel => exact ⟨(wrap64 (x10_1 + 1)), zz, H', ⟨by have := HK1.out; omega⟩, ⟨by (with_reducible repeat (first | refine blk_drewN ?_ _ | refine blk_drew ?_ | refine blk_alloc ?_ _)); refine blk_far ?_ NB111_121.out _; (with_reducible repeat (first | refine blk_drewN ?_ _ | refine blk_drew ?_ | refine blk_alloc ?_ _)); refine blk_far ?_ NB111_121.out _; (with_reducible repeat (first | refine blk_drewN ?_ _ | refine blk_drew ?_ | refine blk_alloc ?_ _)); exact BK111.out⟩, ⟨zb3 HB.out GE111.out GE113.out GE121.out⟩⟩
     ·rw [if_neg c5] at H
      exact absurd H (by simp)
    ·rw [if_neg c4] at H
     exact absurd H (by simp)
   ·rw [if_neg c3] at H
    have c3b0 : decide (x10_1 < (l0.length : Int)) = false := decide_eq_false c3; clear c3; simp only [Option.some.injEq, Prod.mk.injEq] at H; obtain ⟨rfl, rfl, rfl⟩ := H; have hcz29_0 : wr.cell? ⟨gb111, 0, none⟩ = some (.slice none 0 0) := (blk_cell BK111.out 0).trans rfl; have hcz29_1 : wr.cell? ⟨gb111, 1, none⟩ = some (.slice none 0 0) := (blk_cell BK111.out 1).trans rfl; have hfz29_0 := blk_frozen BK111.out 0; have hfz29_1 := blk_frozen BK111.out 1; go_wp2; (refine bodyPost_ret (results_ct rfl _ _ gb111 44 #[.slice none 0 0, .slice none 0 0] (0, 0) _ rfl (by (with_reducible repeat (first | refine blk_drewN ?_ _ | refine blk_drew ?_ | refine blk_alloc ?_ _)); refine blk_put (cs := #[.slice none 0 0, .slice none 0 0]) ?_ 1 _ rfl; (with_reducible repeat (first | refine blk_drewN ?_ _ | refine blk_drew ?_ | refine blk_alloc ?_ _)); refine blk_put (cs := #[.slice none 0 0, .slice none 0 0]) ?_ 0 _ rfl; (with_reducible repeat (first | refine blk_drewN ?_ _ | refine blk_drew ?_ | refine blk_alloc ?_ _)); exact BK111.out) Tryd.underlying44 rfl (by kernel_rfl)) rfl ?_); (exact ⟨_, _, by first | rfl | (simp [errW_none, errW_some] <;> rfl) | (simp [*, errW_none, errW_some] <;> rfl), by first | exact Kd.R_nil _ _ _ _ _ | exact Kd.N_nil _ _ _ _ _ | exact Kd.V_nil _ _ _ _ _ | exact Kd.Q_nil _ _ _ _ _ | exact Kd.S_nil _ _ _ _ _, by first | exact Kd.R_nil _ _ _ _ _ | exact Kd.N_nil _ _ _ _ _ | exact Kd.V_nil _ _ _ _ _ | exact Kd.Q_nil _ _ _ _ _ | exact Kd.S_nil _ _ _ _ _, zb1 HB.out GE111.out⟩)
end Go.Proofs.YtpmefpdafkbphaaDoor.PQ

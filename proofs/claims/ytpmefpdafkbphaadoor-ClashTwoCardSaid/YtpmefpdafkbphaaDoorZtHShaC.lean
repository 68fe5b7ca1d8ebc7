import Derived.Test.YtpmefpdafkbphaaDoorZtHShaB
import Derived.Test.YtpmefpdafkbphaaDoorZtWRepsOne
namespace Go.Proofs.YtpmefpdafkbphaaDoor.HSha
open Go.RowKit Go.Proofs.YtpmefpdafkbphaaDoorW.PrintWords Go.Proofs.YtpmefpdafkbphaaDoorW.PrintLast Go.Proofs.YtpmefpdafkbphaaDoorW.PrintMore HReg
set_option linter.unusedVariables false
set_option linter.unusedSimpArgs false
structure EndS (w : World) (v : V8) (A : Option Addr) (n c : Nat) (N : Int) (wr : World) : Prop where
  b : Blk wr w.heap.size 103 (stCells v A n c N)
  below : Below w.heap.size w wr
section
variable {w wr w1 : World} {v : V8} {A : Option Addr} {n c : Nat} {N : Int}
theorem EndS.step (S : EndS w v A n c N wr) (h : Below wr.heap.size wr w1) : EndS w v A n c N w1 := ⟨S.b.below h S.b.lt, below_then S.below S.below.size h⟩
theorem EndS.drewN (S : EndS w v A n c N wr) (k : Nat) : EndS w v A n c N (wr.drewN k) := ⟨S.b, pw_below_drewN S.below k⟩
theorem EndS.grown {row : Option Nat} (S : EndS w v A n c N wr) (h : wr.grownBy w1 row) (h0 : some w.heap.size ≠ row) (hb : Below w.heap.size w w1) : EndS w v A n c N w1 := ⟨S.b.grown h h0, hb⟩
theorem EndS.app {base : Nat} {ok : Nat → Prop} {u : Value} {xs : List Int} (S : EndS w v A n c N wr) (ho : Kd.R (Kd.int .u8) 5 wr base ok u xs) (h : wr.grownBy w1 u.ownBlock) (hb : Below w.heap.size w w1) : EndS w v A n c N w1 :=
  S.grown h (Kd.R_ne ho S.b (by decide)) hb
theorem EndS.row (S : EndS w v A n c N wr) (v' : V8) (A' : Option Addr) (n' c' : Nat) (N' : Int) : EndS w v' A' n' c' N' (wr.setRow w.heap.size (stCells v' A' n' c' N')) :=
  ⟨blk_row S.b, below_row S.below (Nat.le_refl _)⟩
theorem EndS.begin (w : World) (v : V8) (A : Option Addr) (n c : Nat) (N : Int) : EndS w v A n c N (w.alloc (.cells (stCells v A n c N) 103)) := ⟨Blk.new _ _ _, (Below.refl _ _).alloc (Nat.le_refl _) _⟩
theorem EndS.cell (S : EndS w v A n c N wr) (i : Nat) : wr.cell? ⟨w.heap.size, i, none⟩ = (stCells v A n c N)[i]? := S.b.cell i
end
theorem below_of_grown {w w1 : World} (h : w.grownBy w1 none) : Below w.heap.size w w1 := ⟨h.os, h.tape, h.output, h.size, fun i hi => h.block i hi (by simp)⟩
def zeros (N : Int) : Nat := ((64 - (N + 9) % 64) % 64).toNat
def lenB (n : Int) : Nat → List Int
  | 0 => []
  | k + 1 => lenB n k ++ [n / 2 ^ (56 - 8 * k) % 256]
def tail (N : Int) : List Int := (128 :: List.replicate (zeros N) 0) ++ lenB (N * 8) 8
def outB (y : V8) : Nat → List Int
  | 0 => []
  | k + 1 => outB y k ++ [y.list.getD k 0 / 16777216 % 256, y.list.getD k 0 / 65536 % 256, y.list.getD k 0 / 256 % 256, y.list.getD k 0 % 256]
def endS (v : V8) (rest : List Int) (N : Int) : ByteArray := strOfNums (outB (absorbs v (rest ++ tail N)).1 8)
set_option maxRecDepth 100000 in
theorem idx8 (y : V8) (i : Nat) (h : i < 8) (W : World) : (Instr.index 101 (.agg #[.int .u32 y.a, .int .u32 y.b, .int .u32 y.c, .int .u32 y.d, .int .u32 y.e, .int .u32 y.f, .int .u32 y.g, .int .u32 y.h]) (.int .i64 (i : Int))).run Tryd.prog W = .ok (.int .u32 (y.list.getD i 0)) W := by
  (have : i = 0 ∨ i = 1 ∨ i = 2 ∨ i = 3 ∨ i = 4 ∨ i = 5 ∨ i = 6 ∨ i = 7 := by omega); (rcases this with rfl | rfl | rfl | rfl | rfl | rfl | rfl | rfl <;> rfl)
theorem lenB_len (n : Int) : ∀ k, (lenB n k).length = k
  | 0 => rfl
  | k + 1 => by simp [lenB, lenB_len n k]
theorem outB_len (y : V8) : ∀ k, (outB y k).length = 4 * k
  | 0 => rfl
  | k + 1 => by simp [outB, outB_len y k]; omega
theorem zeros_lt (N : Int) : zeros N < 64 := by unfold zeros; omega
theorem tail_len (N : Int) : (tail N).length = 1 + zeros N + 8 := by simp [tail, lenB_len]; omega
theorem zeros_spec (N : Int) (h : 0 ≤ N) (k : Nat) (hk : k ≤ zeros N) : (N + (1 + k : Nat) + 8) % 64 = 0 ↔ k = zeros N := by unfold zeros at *; omega
theorem all_len (rest : List Int) (N : Int) (h : (rest.length : Int) = N % 64) (h0 : 0 ≤ N) : (rest ++ tail N).length % 64 = 0 := by
  rw [List.length_append, tail_len]; unfold zeros; omega
def EndL (w : World) (v : V8) (A : Option Addr) (n c : Nat) (N : Int) (xs : List Int) (u : Value) (wr : World) : Prop :=
  EndS w v A n c N wr ∧ Kd.R (Kd.int .u8) 5 wr w.heap.size (fun _ => True) u xs
def EndT (w : World) (v : V8) (A : Option Addr) (n c : Nat) (N : Int) (s : Value) (u : Value) (wr : World) : Prop :=
  ∃ (k : Nat) (d : Int), s = .int .i64 d ∧ d + 8 * k = 56 ∧ k ≤ 8 ∧ EndL w v A n c N ((128 :: List.replicate (zeros N) 0) ++ lenB (N * 8) k) u wr
def EndA (w : World) (v0 : V8) (l0 : List Int) (A0 : Option Addr) (n0 c0 : Nat) (N : Int) (s : Value) (wr : World) : Prop :=
  ∃ (x : V8) (l : List Int) (A : Option Addr) (c : Nat), s = .slice A l.length c ∧ l.length ≤ c ∧ EndS w x A0 n0 c0 N wr ∧ RF wr w.heap.size A l.length l ∧ absorbs x l = absorbs v0 l0 ∧ l.length % 64 = 0
def EndO (w : World) (x : V8) (A0 : Option Addr) (n0 c0 : Nat) (N : Int) (i u : Value) (wr : World) : Prop :=
  ∃ k : Nat, i = .int .i64 k ∧ k ≤ 8 ∧ Below w.heap.size w wr ∧ Kd.R (Kd.int .u8) 5 wr w.heap.size (fun _ => True) u (outB x k)
set_option maxHeartbeats 8000000 in
set_option maxRecDepth 100000 in
theorem end_walk (v : V8) (A : Option Addr) (c : Nat) (rest : List Int) (N : Int) (w : World) (hG : Aside0 (GW w))
    (hr : Kd.C (Kd.int .u8) w A rest.length rest) (hc : rest.length ≤ c) (hok : rightB rest.length N = true) :
    Calls Tryd.prog 80 #[St v A rest.length c N] w fun e w' => e = .returned (.string (endS v rest N)) ∧ Below w.heap.size w w' := by
  have HR := Aside0.mk hr; clear hr; obtain ⟨hN0, hN1, hN2⟩ := rightB_spec.1 hok; have hz := zeros_lt N; have HO := Lib.hid hok; have HN := Lib.hid hN2; obtain ⟨out, hout⟩ : ∃ s, endS v rest N = s := ⟨_, rfl⟩; have HOUT := Lib.hid hout; rw [hout]; (have hN8 : N * 8 ≤ 8796093022208 := by omega); (have hN80 : 0 ≤ N * 8 := by omega); clear hok hN2 hout; unfold St; have S0 := EndS.begin w v A rest.length c N; go_enter Tryd.func80, Tryd.ntmps80; (go_wp2_with (first | (go_at_call 90; refine (right_any v _ _ _ _ _).mono ?_; rintro e w1 ⟨rfl, hb1⟩; rw [HO.out]; have S1 := S0.step hb1; clear S0 hb1; have c9 : w1.cell? ⟨w.heap.size, 9, none⟩ = some (.int .i64 N) := S1.cell 9) | ((with_reducible refine gate_dst (N := 18) rfl ?_); refine Kd.R_lit (Kd.int .u8) w.heap.size 5 rfl (N := 18) rfl (xs := ([128] : List Int)) (inner := [.int .u8 128]) (ok := fun _ => True) (okp := fun _ => True) ?hr (Reps.one (show Kd.M (Kd.int .u8) _ _ _ 128 [.int .u8 128] from rfl) (Reps.none _ _)) (fun _ hk => hk) trivial S1.below S1.below.size (by simp) ?_; (case hr => first | (go_simp; done) | (go_simp; rfl)); intro v18 w4 ho_ hb_ hg_ hat_; have S2 := S1.grown hg_ (by simp) hb_; have HO18 := Aside0.mk ho_; clear hb_ hg_ hat_ ho_ S1 c9))); (go_loopw [4] (fun u wr => ∃ k : Nat, k ≤ zeros N ∧ EndL w v A rest.length c N (128 :: List.replicate k 0) u wr) (fun u _ => 1 + zeros N - lenOf u))
  case atStart => exact ⟨0, Nat.zero_le _, S2, HO18.out⟩
  case round =>
    clear S2 HO18; obtain ⟨k, hk, S, ho⟩ := hrel; obtain ⟨A4, c4, rfl, hc4, hC4⟩ := Kd.R_reads ho; (have hl4 : (128 :: List.replicate k (0 : Int)).length = 1 + k := by simp; omega); obtain ⟨y4, hy4⟩ : ∃ y, (128 :: List.replicate k (0 : Int)) = y := ⟨_, rfl⟩; (have hm : (y4.length : Int) = 1 + k := by rw [← hy4]; simp; omega); (rw [hy4] at ho hC4 hc4 ⊢); have HY4 := Lib.hid hy4; have HM := Lib.hid hm; (have hm1 : (y4.length : Int) ≤ 100 := by omega); (have hm2 : (0 : Int) ≤ y4.length := by omega); have c9 : wr.cell? ⟨w.heap.size, 9, none⟩ = some (.int .i64 N) := S.cell 9; have H0 := Aside0.mk ho; clear hy4 hm hl4 ho hC4
    by_cases hlt : k = zeros N
    · have hb : ((N + y4.length + 8) % 64 != 0) = false := by
        have := (zeros_spec N hN0 k hk).2 hlt; rw [HM.out]; simp only [bne_eq_false_iff_eq]; omega
      go_wp2; subst hlt; clear hb hm1 hm2; (have HZ : EndT w v A rest.length c N (.int .i64 56) (.slice A4 y4.length c4) wr := ⟨0, 56, rfl, by omega, by omega, S, by have h := H0.out; rw [show (128 :: List.replicate (zeros N) (0 : Int)) ++ lenB (N * 8) 0 = y4 by rw [← HY4.out]; simp [lenB]]; exact h⟩); clear HY4 HM H0 hc4 c9 hk; (generalize y4.length = m4 at HZ ⊢); obtain ⟨wo, rfl⟩ : ∃ wo : World, wo = wr := ⟨_, rfl⟩; clear S; (go_loopw [4, 5] (fun u s wr => EndT w v A rest.length c N s u wr) (fun _ s _ => (intOf s + 8).toNat))
      case atStart => exact HZ
      case round =>
        clear HZ; obtain ⟨k, d, rfl, hd, hk, S, ho⟩ := hrel; obtain ⟨y5, hy5⟩ : ∃ y, ((128 :: List.replicate (zeros N) (0 : Int)) ++ lenB (N * 8) k) = y := ⟨_, rfl⟩; (have hl5 : y5.length = 1 + zeros N + k := by rw [← hy5]; simp [lenB_len]; omega); rw [hy5] at ho; have HY5 := Lib.hid hy5; have HL5 := Lib.hid hl5; have HD := Lib.hid hd; have H0 := Aside0.mk ho; (have hlim : y5.length + 4 < 100 := by omega)
        by_cases hk8 : k < 8
        · have hd0 : 0 ≤ d := by omega
          (have hd1 : d ≤ 56 := by omega); (have hd2 : d ≤ 64 := by omega); clear hy5 hl5 hd ho; (go_wp2_with (first | ((with_reducible refine gate_builtin (b := .append) (xs := #[.tmp 34, .tmp 39]) rfl ?_); at_builtin; refine Kd.R_append (Kd.int .u8) (w0 := w) w.heap.size rfl (.tmp 34) (.tmp 39) 41 5 (.int .u8 0) 1 rfl Tryd.underlying41 info8 rfl (by decide) (by omega) u4 y5 (N * 8 / 2 ^ d.toNat % 256) [.int .u8 (N * 8 / 2 ^ d.toNat % 256)] (fun _ => True) (fun _ => False) rfl rfl rfl (fun _ hk => hk.elim) (fun _ _ => trivial) H0.out S.below S.below.size (by omega) ?_; intro v40 w5 ho_ hb_ hg_ hat_; have S2 := S.app H0.out hg_ hb_; have HO40 := Aside0.mk ho_; clear hb_ hg_ hat_ ho_ H0))); go_roundw
          case rel => exact ⟨k + 1, d - 8, rfl, by have := HD.out; omega, by omega, S2, by
            have h := HO40.out; (have ht : d.toNat = 56 - 8 * k := by have := HD.out; omega); rw [ht] at h; (rw [show (128 :: List.replicate (zeros N) (0 : Int)) ++ lenB (N * 8) (k + 1) = y5 ++ [N * 8 / 2 ^ (56 - 8 * k) % 256] by rw [← HY5.out]; simp [lenB]])
            exact h⟩
          case measure => simp [intOf]; omega
        · obtain rfl : k = 8 := by omega
          (have hd9 : d = -8 := by omega); subst hd9; change tail N = y5 at hy5; clear hd HD hk hk8 HY5 HL5 H0; (have hln : y5.length < 100 := by omega); obtain ⟨A5, c5, rfl, hc5, hC5⟩ := Kd.R_reads ho; have HT := Lib.hid hy5; have HC5 := Aside0.mk hC5; clear hy5 hl5 ho hC5 hlim; obtain ⟨wo2, rfl⟩ : ∃ wo : World, wo = wr := ⟨_, rfl⟩; (have hrl : rest.length < 64 := by have := HN.out; omega); have c8 : wo2.cell? ⟨w.heap.size, 8, none⟩ = some (.slice A rest.length c) := S.cell 8; (go_wp2_with (first | ((with_reducible refine gate_dst (N := 41) rfl ?_); refine Kd.R_lit (Kd.int .u8) w.heap.size 5 rfl (N := 41) rfl (xs := ([] : List Int)) (inner := []) (ok := fun _ => True) (okp := fun _ => True) ?hr3 (Reps.none _ _) (fun _ hk => hk) trivial S.below S.below.size (by simp) ?_; (case hr3 => first | (go_simp; done) | (go_simp; rfl)); intro v41 w4 ho_ hb_ hg_ hat_; have S2 := S.grown hg_ (by simp) hb_; have HB41 := Aside0.mk (below_of_grown hg_); obtain ⟨b41, hb41, hb41'⟩ := hat_; have HE41 := Lib.hid hb41; clear hb41; have HO41 := Aside0.mk ho_; clear hb_ hg_ ho_ c8; have c8 : w4.cell? ⟨w.heap.size, 8, none⟩ = some (.slice A rest.length c) := S2.cell 8) | ((with_reducible refine gate_builtin (b := .append) (xs := #[.tmp 41, .tmp 43]) rfl ?_); at_builtin; refine Kd.R_append_rows (Kd.int .u8) (w0 := w) w.heap.size rfl (.tmp 41) (.tmp 43) 41 5 (.int .u8 0) 1 rfl Tryd.underlying41 info8 rfl (by decide) (by omega) v41 [] rest _ _ _ (fun _ => True) (fun _ => False) rfl rfl HO41.out (Kd.C_below HR.out S2.below) (fun _ _ h => h) (fun _ h => h.elim) (fun _ _ => trivial) S2.below S2.below.size (by simp; omega) ?_; intro v44 w5 ho_ hb_ hg_ hat_; have S3 := S2.app HO41.out hg_ hb_; have HB44 := Aside0.mk (pw_below_grown HB41.out _ HB41.out.size hg_ (fun k e => by rw [HE41.out] at e; injection e with e; omega)); have HO44 := Aside0.mk ho_; clear hb_ hg_ hat_ ho_ c8 HB41 HO41) | ((with_reducible refine gate_builtin (b := .append) (xs := #[.tmp 44, .tmp 45]) rfl ?_); at_builtin; refine Kd.R_append_rows (Kd.int .u8) (w0 := w) w.heap.size rfl (.tmp 44) (.tmp 45) 41 5 (.int .u8 0) 1 rfl Tryd.underlying41 info8 rfl (by decide) (by omega) v44 ([] ++ rest) y5 _ _ _ (fun _ => True) (fun _ => False) rfl rfl HO44.out (Kd.C_below HC5.out HB44.out) (fun _ _ h => h) (fun _ h => h.elim) (fun _ _ => trivial) S3.below S3.below.size (by simp; omega) ?_; intro v46 w6 ho_ hb_ hg_ hat_; have S4 := S3.app HO44.out hg_ hb_; have HO46 := Aside0.mk ho_; clear hb_ hg_ hat_ ho_ HB44 HO44))); (have hap : rest ++ tail N = ([] ++ rest) ++ y5 := by rw [HT.out]; simp); obtain ⟨A6, c6, rfl, hc6, F6⟩ := RF.of_own HO46.out S4.b; obtain ⟨l6, hl6⟩ : ∃ l6, ([] ++ rest) ++ y5 = l6 := ⟨_, rfl⟩; (rw [hl6] at hc6 F6 hap ⊢); (have hmod : l6.length % 64 = 0 := by rw [← hap]; exact all_len rest N HN.out hN0); have HAP := Lib.hid hap; clear hap hl6 HO46 S S2 S3 HC5 hc5 HT hln; obtain ⟨wo2, rfl⟩ : ∃ wo : World, wo = w6 := ⟨_, rfl⟩; have HZ : EndA w v l6 A rest.length c N (.slice A6 l6.length c6) wo2 := ⟨v, l6, A6, c6, rfl, hc6, S4, F6, rfl, hmod⟩; clear hc6 F6 S4 hmod; (generalize l6.length = m6 at HZ ⊢); (go_loopw [6] (fun s wr => EndA w v l6 A rest.length c N s wr) (fun s _ => lenOf s))
          case atStart => exact HZ
          case round =>
            clear HZ; obtain ⟨x, l, A', c', rfl, hc', S, F, HE, hmod⟩ := hrel; have HE' := Lib.hid HE; have HM := Lib.hid hmod; clear HE
            by_cases h64 : 0 < l.length
            · have h64' : 64 ≤ l.length := by omega
              clear hmod; (obtain ⟨ad, rfl, hcell⟩ := F.1.2.2 (by omega)); have d0_ : wr.cell? ⟨w.heap.size, 0, none⟩ = some (.int .u32 x.a) := S.cell 0; have d1_ : wr.cell? ⟨w.heap.size, 1, none⟩ = some (.int .u32 x.b) := S.cell 1; have d2_ : wr.cell? ⟨w.heap.size, 2, none⟩ = some (.int .u32 x.c) := S.cell 2; have d3_ : wr.cell? ⟨w.heap.size, 3, none⟩ = some (.int .u32 x.d) := S.cell 3; have d4_ : wr.cell? ⟨w.heap.size, 4, none⟩ = some (.int .u32 x.e) := S.cell 4; have d5_ : wr.cell? ⟨w.heap.size, 5, none⟩ = some (.int .u32 x.f) := S.cell 5; have d6_ : wr.cell? ⟨w.heap.size, 6, none⟩ = some (.int .u32 x.g) := S.cell 6; have d7_ : wr.cell? ⟨w.heap.size, 7, none⟩ = some (.int .u32 x.h) := S.cell 7; obtain ⟨i8, hi8, hs8⟩ := info8i; (have hsl := cut_to (P := Tryd.prog) 41 5 .i64 Tryd.underlying41 hi8 (some ad) l.length c' 64 (by decide) (by omega) hc'); (have hsd := cut_from (P := Tryd.prog) 41 5 .i64 Tryd.underlying41 hi8 1 hs8 (some ad) l.length c' 64 (by decide) (by omega)); have FD := F.drop_ 64 h64' hc'; have h64i : (64 : Int).toNat = 64 := rfl; rw [h64i] at hsl hsd; simp only [Nat.mul_one] at hsd; (obtain ⟨A2, hA2⟩ : ∃ A2, (if c' = 64 then (some ad : Option Addr) else (some ad).map (·.add 64)) = A2 := ⟨_, rfl⟩); rw [hA2] at FD; (have hsd2 : ∀ W : World, (Instr.slice 41 (.slice (some ad) l.length c') (some (.int .i64 64)) none none).run Tryd.prog W = .ok (.slice A2 (l.length - 64) (c' - 64)) W := fun W => by rw [hsd W, hA2]); have HA2 := Lib.hid hA2; clear hA2 hsd h64i hi8 hs8
              have HC := Aside0.mk (fun (i : Nat) (hi : i < 64) => (show wr.cell? (ad.add i) = some (.int .u8 (rd (l.take 64) i)) from by
                (rw [hcell i (by omega)]); unfold rd
                simp [List.getD_eq_getElem?_getD, List.getElem?_take, hi]))
              clear hcell; have hdd : decide (0 < l.length) = true := decide_eq_true h64; (have hdi : decide ((0 : Int) < (l.length : Int)) = true := decide_eq_true (by omega)); go_wp2; (go_still_tail 4, (by kernel_rfl)); change wpList _ _ _ _ _ wr.drew; (go_wp2_with (first | (go_at_call 91; refine (mix_any x (l.take 64) ad c' _ (by simp; omega) ((gw_step hG (show Below w.heap.size w wr.drew from S.below.drew)).out) (fun i hi => HC.out i hi)).mono ?_; rintro e w5 ⟨rfl, hb5⟩; have S5 := (show EndS w x A rest.length c N wr.drew from S.drewN 1).step hb5; have F5 := (show RF wr.drew w.heap.size A2 (l.length - 64) (l.drop 64) from FD).below hb5) | (refine wpList_store_part rfl 101 _ _ rfl w.heap.size #[_, _, _, _, _, _, _, _] rfl rfl 103 _ S5.b size8 (show (8 : Nat) ≤ 10 from by decide) (mem8 _ _ _ _ _ _ _ _) ?_))); go_roundw
              case rel => exact ⟨mix x (l.take 64), l.drop 64, A2, c' - 64, by rw [List.length_drop], by rw [List.length_drop]; omega, S5.row _ _ _ _ _, by rw [List.length_drop]; exact F5.row _, by rw [← HE'.out]; exact (absorbs_step h64').symm, by rw [List.length_drop]; have := HM.out; omega⟩
              case measure => simp [lenOf]; omega
            · obtain rfl : l = [] := List.eq_nil_of_length_eq_zero (by omega)
              (have E2 : Hid (absorbs v l6 = (x, [])) := Lib.hid (by rw [← HE'.out]; exact absorbs_end (by simp))); obtain ⟨wo3, rfl⟩ : ∃ wo : World, wo = wr := ⟨_, rfl⟩; clear HM HE' F hmod; have d0_ : wo3.cell? ⟨w.heap.size, 0, none⟩ = some (.int .u32 x.a) := S.cell 0; have d1_ : wo3.cell? ⟨w.heap.size, 1, none⟩ = some (.int .u32 x.b) := S.cell 1; have d2_ : wo3.cell? ⟨w.heap.size, 2, none⟩ = some (.int .u32 x.c) := S.cell 2; have d3_ : wo3.cell? ⟨w.heap.size, 3, none⟩ = some (.int .u32 x.d) := S.cell 3; have d4_ : wo3.cell? ⟨w.heap.size, 4, none⟩ = some (.int .u32 x.e) := S.cell 4; have d5_ : wo3.cell? ⟨w.heap.size, 5, none⟩ = some (.int .u32 x.f) := S.cell 5; have d6_ : wo3.cell? ⟨w.heap.size, 6, none⟩ = some (.int .u32 x.g) := S.cell 6; have d7_ : wo3.cell? ⟨w.heap.size, 7, none⟩ = some (.int .u32 x.h) := S.cell 7; go_wp2; (have HZ : EndO w x A rest.length c N (.int .i64 0) (.slice none 0 0) wo3 := ⟨0, rfl, by omega, S.below, Kd.R_nil _ _ _ _ _⟩); clear S d0_ d1_ d2_ d3_ d4_ d5_ d6_ d7_; (go_loopw [7, 60] (fun u i wr => EndO w x A rest.length c N i u wr) (fun _ i _ => 8 - (intOf i).toNat))
              case atStart => exact HZ
              case round =>
                clear HZ; obtain ⟨k, rfl, hk, hB, hU⟩ := hrel
                by_cases hk8 : k < 8
                · have hix := idx8 x k hk8
                  obtain ⟨q, hq⟩ : ∃ q, x.list.getD k 0 = q := ⟨_, rfl⟩; rw [hq] at hix; have HQ := Lib.hid hq; obtain ⟨z7, hz7⟩ : ∃ z, outB x k = z := ⟨_, rfl⟩; (have hl7 : z7.length < 100 := by rw [← hz7, outB_len]; omega); rw [hz7] at hU; have HZ7 := Lib.hid hz7; have HU := Aside0.mk hU; have HB := Aside0.mk hB; (have hdi : decide ((k : Int) < 8) = true := decide_eq_true (by omega)); clear hq hz7 hU hB; (go_wp2_with (first | ((with_reducible refine gate_dst (N := 75) rfl ?_); refine Kd.R_lit (Kd.int .u8) w.heap.size 5 rfl (N := 75) rfl (xs := ([q / 16777216 % 256, q / 65536 % 256, q / 256 % 256, q % 256] : List Int)) (inner := [.int .u8 (q / 16777216 % 256), .int .u8 (q / 65536 % 256), .int .u8 (q / 256 % 256), .int .u8 (q % 256)]) (ok := fun _ => True) (okp := fun _ => True) ?hr5 (Reps.one (show Kd.M (Kd.int .u8) _ _ _ _ [.int .u8 _] from rfl) (Reps.one (show Kd.M (Kd.int .u8) _ _ _ _ [.int .u8 _] from rfl) (Reps.one (show Kd.M (Kd.int .u8) _ _ _ _ [.int .u8 _] from rfl) (Reps.one (show Kd.M (Kd.int .u8) _ _ _ _ [.int .u8 _] from rfl) (Reps.none _ _))))) (fun _ hk => hk) trivial HB.out HB.out.size (by simp) ?_; (case hr5 => first | (go_simp; done) | (go_simp; rfl)); intro v75 w4 ho_ hb_ hg_ hat_; have HU2 := Aside0.mk (Kd.R_below HU.out (below_of_grown hg_)); obtain ⟨A75, c75, rfl, hc75, hC75⟩ := Kd.R_reads ho_; have HC75 := Aside0.mk hC75; have HB2 := Aside0.mk hb_; clear hb_ hg_ hat_ ho_ hC75) | ((with_reducible refine gate_builtin (b := .append) (xs := #[.tmp 63, .tmp 75]) rfl ?_); at_builtin; refine Kd.R_append_rows (Kd.int .u8) (w0 := w) w.heap.size rfl (.tmp 63) (.tmp 75) 41 5 (.int .u8 0) 1 rfl Tryd.underlying41 info8 rfl (by decide) (by omega) u7 z7 [q / 16777216 % 256, q / 65536 % 256, q / 256 % 256, q % 256] _ _ _ (fun _ => True) (fun _ => False) rfl rfl HU2.out HC75.out (fun _ _ h => h) (fun _ h => h.elim) (fun _ _ => trivial) HB2.out HB2.out.size (by simp; omega) ?_; intro v76 w5 ho_ hb_ hg_ hat_; have HU3 := Aside0.mk ho_; have HB3 := Aside0.mk hb_; clear hb_ hg_ hat_ ho_ HU2))); go_roundw
                  case rel =>
                    (have R9 : EndO w x A rest.length c N (.int .i64 ((k : Int) + 1)) v76 w5 := ⟨k + 1, by go_num, by omega, HB3.out, by simp only [outB]; rw [HQ.out, HZ7.out]; exact HU3.out⟩); (first | exact R9 | ((repeat apply Exists.intro); exact ⟨R9, rfl⟩))
                  case measure => simp [intOf]; omega
                · obtain rfl : k = 8 := by omega
                  obtain ⟨A7, c7, rfl, hc7, hC7⟩ := Kd.R_reads hU; have hcs := Kd.C_string (c := c7) (src := 41) (dst := 9) Tryd.underlying41 Tryd.underlying5 Tryd.underlying9 hC7; (have hrun : Hid (out = strOfNums (outB x 8)) := Lib.hid (by rw [← HOUT.out]; unfold endS; rw [HAP.out, E2.out])); (rw [show strOfNums (outB x 8) = out from hrun.out.symm] at hcs); (generalize (outB x 8).length = m7 at hcs ⊢); clear hC7 hU hc7; go_wp2; go_ret; exact ⟨rfl, hB⟩
    · have hb : ((N + y4.length + 8) % 64 != 0) = true := by
        have := mt (zeros_spec N hN0 k hk).1 hlt; rw [HM.out, bne_iff_ne]; omega
      (go_wp2_with (first | ((with_reducible refine gate_builtin (b := .append) (xs := #[.tmp 27, .tmp 28]) rfl ?_); at_builtin; refine Kd.R_append (Kd.int .u8) (w0 := w) w.heap.size rfl (.tmp 27) (.tmp 28) 41 5 (.int .u8 0) 1 rfl Tryd.underlying41 info8 rfl (by decide) (by omega) (.slice A4 y4.length c4) y4 0 [.int .u8 0] (fun _ => True) (fun _ => False) rfl rfl rfl (fun _ hk => hk.elim) (fun _ _ => trivial) H0.out S.below S.below.size (by omega) ?_; intro v29 w5 ho_ hb_ hg_ hat_; obtain ⟨A29, c29, rfl, _, _⟩ := Kd.R_reads ho_; have S2 := S.app H0.out hg_ hb_; have HO29 := Aside0.mk ho_; clear hb_ hg_ hat_ ho_ H0))); go_roundw
      case rel => exact ⟨k + 1, by omega, S2, by have h := HO29.out; simp only [List.length_append, List.length_singleton] at h; rw [List.replicate_succ', ← List.cons_append, HY4.out]; exact h⟩
      case measure => have h1 := HM.out; simp [lenOf]; omega
theorem absorbs_len (v : V8) (l : List Int) : (absorbs v l).2.length = l.length % 64 := by
  obtain ⟨n, hn⟩ : ∃ n, l.length = n := ⟨_, rfl⟩
  induction n using Nat.strongRecOn generalizing v l with
  | _ n ih =>
    by_cases h : 64 ≤ l.length
    · rw [absorbs_step h, ih (n - 64) (by omega) _ _ (by rw [List.length_drop]; omega), List.length_drop]
      omega
    · rw [absorbs_end (by omega)]
      simp only; omega
def shaSum (l : List Int) : ByteArray := endS (absorbs init l).1 (absorbs init l).2 l.length
theorem add_new (Ab : Option Addr) (cb : Nat) (b : List Int) (w : World) (hG : Aside0 (GW w)) (hrb : Kd.C (Kd.int .u8) w Ab b.length b) (hcb : b.length ≤ cb) (hl : b.length ≤ 1099511627776) :
    Calls Tryd.prog 81 #[St init none 0 0 0, .slice Ab b.length cb] w fun e w' => ∃ v1 : Value, e = .returned (.agg #[.int .u32 (absorbs init b).1.a, .int .u32 (absorbs init b).1.b, .int .u32 (absorbs init b).1.c, .int .u32 (absorbs init b).1.d, .int .u32 (absorbs init b).1.e, .int .u32 (absorbs init b).1.f, .int .u32 (absorbs init b).1.g, .int .u32 (absorbs init b).1.h, v1, .int .i64 (b.length : Int)]) ∧
      Kd.R (Kd.int .u8) 5 w' w.heap.size (fun _ => True) v1 (absorbs init b).2 ∧ Below w.heap.size w w' := by
  (have h := add_walk init none 0 [] 0 Ab cb b w hG (Kd.C_of_reads (d := (0 : Int)) (h1 := fun _ => rfl) ⟨rfl, by simp, fun h => absurd h (by simp)⟩) (by simp) hrb hcb (by simp; omega) (by simp [addOk, rightB]; omega)); rw [List.nil_append, Int.zero_add] at h; exact h
set_option maxHeartbeats 4000000 in
theorem sum_walk (A : Option Addr) (c : Nat) (l : List Int) (w : World) (hG : Aside0 (GW w)) (hr : Kd.C (Kd.int .u8) w A l.length l) (hc : l.length ≤ c) (hl : l.length ≤ 1099511627776) :
    Calls Tryd.prog 51 #[.slice A l.length c] w fun e w' => e = .returned (.string (shaSum l)) ∧ Below w.heap.size w w' := by
  have HR := Aside0.mk hr; clear hr; obtain ⟨out, hout⟩ : ∃ s, shaSum l = s := ⟨_, rfl⟩; (have HOUT := Lib.hid (show endS (absorbs init l).1 (absorbs init l).2 l.length = out from hout)); rw [hout]; (have HL : Hid (((absorbs init l).2.length : Int) = (l.length : Int) % 64) := Lib.hid (by rw [absorbs_len]; omega)); clear hout; go_enter Tryd.func51, Tryd.ntmps51; (go_wp2_with (first | (go_at_call 82; refine (new_any _).mono ?_; rintro e w1 ⟨rfl, hb1⟩) | (go_at_call 81; refine (add_new A c l _ (gw_step hG hb1) (Kd.C_below HR.out hb1) hc hl).mono ?_; rintro e w2 ⟨v1, rfl, ho, hb2⟩; obtain ⟨A1, c1, rfl, hc1, hC1⟩ := Kd.R_reads ho; have HC1 := Aside0.mk hC1; clear ho hC1; have hb3 := below_then hb1 hb1.size hb2; clear hb2) | (go_at_call 80; refine (end_walk (absorbs init l).1 A1 c1 (absorbs init l).2 l.length _ (gw_step hG hb3) HC1.out hc1 (rightB_true (by omega) (by omega) HL.out)).mono ?_; rintro e w4 ⟨rfl, hb4⟩; rw [HOUT.out]))); go_ret; exact ⟨rfl, below_then hb3 hb3.size hb4⟩
end Go.Proofs.YtpmefpdafkbphaaDoor.HSha

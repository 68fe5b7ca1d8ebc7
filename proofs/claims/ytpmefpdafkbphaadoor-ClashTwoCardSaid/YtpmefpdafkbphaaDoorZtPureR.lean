import Derived.Test.YtpmefpdafkbphaaDoorZtPR
namespace Go.Proofs.YtpmefpdafkbphaaDoor.PureR
open Go.RowKit HSha PR Go.Proofs.YtpmefpdafkbphaaDoorW.PrintWords Go.Proofs.YtpmefpdafkbphaaDoorW.PrintLast Go.Proofs.YtpmefpdafkbphaaDoorW.PrintMore
theorem wraps_u32 (n : Int) (h₀ : 0 ≤ n) (h₁ : n < 2 ^ 32) : IntKind.u32.wrap n = n := by rw [IntKind.wrap_u32]; omega
theorem or_comm32 (x y : Int) : Go.bits .or .u32 x y = Go.bits .or .u32 y x := by
  unfold Go.bits; simp only []; rw [BitVec.or_comm]
theorem or_add (i : Nat) (x y : Int) (hx₀ : 0 ≤ x) (hx : x % 2 ^ i = 0) (hx₁ : x < 4294967296) (hy₀ : 0 ≤ y) (hy : y < 2 ^ i) (hy₁ : y < 4294967296) : Go.bits .or .u32 x y = x + y :=
  bits_join .u32 32 (by decide) wraps_u32 i x y hx₀ hx (by omega) hy₀ hy (by omega)
def Wd (x : Int) : Prop := 0 ≤ x ∧ x < 4294967296
theorem wd_mod (x : Int) : Wd (x % 4294967296) := ⟨Int.emod_nonneg _ (by decide), Int.emod_lt_of_pos _ (by decide)⟩
theorem shr_at (x n : Int) (h : n ≤ 32) : shr .u32 x n = x / 2 ^ n.toNat := by
  unfold shr; (rw [show min n.toNat IntKind.u32.bits = n.toNat by simp only [IntKind.bits]; omega])
theorem shl_at (x n : Int) (h : n ≤ 32) : shl .u32 x n = x * 2 ^ n.toNat % 4294967296 := by
  unfold shl; (rw [show min n.toNat IntKind.u32.bits = n.toNat by simp only [IntKind.bits]; omega, IntKind.wrap_u32])
theorem rightF (x : Int) (hx : Wd x) (n : Int) (hn : n = 7 ∨ n = 18 ∨ n = 17 ∨ n = 19 ∨ n = 6 ∨ n = 11 ∨ n = 25 ∨ n = 2 ∨ n = 13 ∨ n = 22) : rubrickref01_right.f x n = some (turn x n) := by
  obtain ⟨h0, h1⟩ := hx; (have hw : wrap64 (32 - n) = 32 - n := by unfold wrap64; omega); (have hn0 : 0 ≤ n ∧ n ≤ 32 := by omega); unfold rubrickref01_right.f turn; (rw [hw, if_pos (by omega), if_pos (by omega), shr_at _ _ (by omega), shl_at _ _ (by omega), or_comm32])
  have key : ∀ a b : Nat, a + b = 32 → 0 < a → (x / 2 ^ a + x * 2 ^ b % 4294967296) % 4294967296 = Go.bits .or .u32 (x * 2 ^ b % 4294967296) (x / 2 ^ a) := by
    intro a b hab ha; (have hpa : (0 : Int) < 2 ^ a := Int.pow_pos (by decide)); (have hpb : (0 : Int) < 2 ^ b := Int.pow_pos (by decide)); (have hM : (4294967296 : Int) = 2 ^ a * 2 ^ b := by rw [← Int.pow_add, hab]; rfl); (have hlow : x / 2 ^ a < 2 ^ b := Int.ediv_lt_of_lt_mul hpa (by rw [Int.mul_comm, ← hM]; exact h1)); have hlow0 : 0 ≤ x / 2 ^ a := Int.ediv_nonneg h0 (Int.le_of_lt hpa); (have hhi : x * 2 ^ b % 4294967296 = (x % 2 ^ a) * 2 ^ b := by rw [hM, Int.mul_comm x, Int.mul_comm (2 ^ a) (2 ^ b), Int.mul_emod_mul_of_pos _ _ hpb, Int.mul_comm]); have hxa : x % 2 ^ a < 2 ^ a := Int.emod_lt_of_pos _ hpa; have hxa0 : 0 ≤ x % 2 ^ a := Int.emod_nonneg _ (Int.ne_of_gt hpa)
    have hle : (x % 2 ^ a) * 2 ^ b + 2 ^ b ≤ 4294967296 := by
      rw [hM]; (have : (x % 2 ^ a + 1) * 2 ^ b ≤ 2 ^ a * 2 ^ b := Int.mul_le_mul_of_nonneg_right (by omega) (Int.le_of_lt hpb)); rw [Int.add_mul, Int.one_mul] at this; exact this
    have hhi0 : 0 ≤ (x % 2 ^ a) * 2 ^ b := Int.mul_nonneg hxa0 (Int.le_of_lt hpb); (rw [hhi, or_add b _ _ hhi0 (Int.mul_emod_left _ _) (by omega) hlow0 hlow (by omega), Int.add_comm, Int.emod_eq_of_lt (by omega) (by omega)])
  rw [key n.toNat (32 - n).toNat (by omega) (by omega)]
theorem word_sum (bs : List Int) (i : Int) (h : ∀ j : Int, 0 ≤ rd bs j ∧ rd bs j < 256) :
    word bs i = (((((((((rd bs (4 * i)) % 4294967296) * 16777216) % 4294967296) + ((((rd bs (4 * i + 1)) % 4294967296) * 65536) % 4294967296)) % 4294967296) + ((((rd bs (4 * i + 2)) % 4294967296) * 256) % 4294967296)) % 4294967296) + ((rd bs (4 * i + 3)) % 4294967296)) % 4294967296 := by
  have h0 := h (4 * i); have h1 := h (4 * i + 1); have h2 := h (4 * i + 2); have h3 := h (4 * i + 3); unfold word; generalize rd bs (4 * i) = a at *; generalize rd bs (4 * i + 1) = b at *; generalize rd bs (4 * i + 2) = c at *; generalize rd bs (4 * i + 3) = d at *; (rw [or_add 24 (a % 4294967296 * 16777216 % 4294967296) (b % 4294967296 * 65536 % 4294967296) (by omega) (by omega) (by omega) (by omega) (by omega) (by omega)]); (rw [or_add 16 _ (c % 4294967296 * 256 % 4294967296) (by omega) (by omega) (by omega) (by omega) (by omega) (by omega)]); (rw [or_add 8 _ (d % 4294967296) (by omega) (by omega) (by omega) (by omega) (by omega) (by omega)]); omega
def W (bs : List Int) (k : Nat) : List Int := (List.range k).map fun (i : Nat) => word bs (i : Int)
theorem W_len (bs : List Int) (k : Nat) : (W bs k).length = k := by simp [W]
theorem W_succ (bs : List Int) (k : Nat) : W bs (k + 1) = W bs k ++ [word bs k] := by simp [W, List.range_succ]
def R (bs : List Int) : Nat → List Int
  | 0 => W bs 16
  | k + 1 => R bs k ++ [next ((R bs k).getD k 0) ((R bs k).getD (k + 1) 0) ((R bs k).getD (k + 9) 0) ((R bs k).getD (k + 14) 0)]
theorem R_len (bs : List Int) : ∀ k, (R bs k).length = 16 + k
  | 0 => W_len bs 16
  | k + 1 => by simp [R, R_len bs k]; omega
theorem take_set_succ (l : List Int) (k : Nat) (y : Int) (h : k < l.length) : (l.set k y).take (k + 1) = l.take k ++ [y] := by
  rw [List.take_add_one, List.take_set_of_le (Nat.le_refl k)]; simp [h]
theorem fill_take (bs : List Int) : ∀ k, k ≤ 64 → (fill bs k).take k = W bs k
  | 0, _ => by simp [W]
  | k + 1, h => by rw [fill, take_set_succ _ _ _ (by rw [fill_len]; omega), fill_take bs k (by omega), W_succ]
theorem getD_take (l : List Int) (n j : Nat) (h : j < n) : (l.take n).getD j 0 = l.getD j 0 := by
  simp [List.getD_eq_getElem?_getD, h]
theorem sch_take (bs : List Int) : ∀ k, k ≤ 48 → (sch bs k).take (16 + k) = R bs k
  | 0, _ => fill_take bs 16 (by omega)
  | k + 1, h => by
    (have ih := sch_take bs k (by omega)); (have g : ∀ j, j < 16 + k → (sch bs k).getD j 0 = (R bs k).getD j 0 := fun j hj => by rw [← ih, getD_take _ _ _ hj]); (rw [sch, show 16 + (k + 1) = (16 + k) + 1 by omega, take_set_succ _ _ _ (by rw [sch_len]; omega), ih, R, g k (by omega), g (k + 1) (by omega), g (k + 9) (by omega), g (k + 14) (by omega)])
theorem sch_R (bs : List Int) : sch bs 48 = R bs 48 := by
  rw [← sch_take bs 48 (Nat.le_refl _), List.take_of_length_le (by rw [sch_len]; omega)]
theorem word_wd (bs : List Int) (i : Int) (h : ∀ j : Int, 0 ≤ rd bs j ∧ rd bs j < 256) : Wd (word bs i) := by rw [word_sum bs i h]; exact wd_mod _
theorem R_wd (bs : List Int) (h : ∀ j : Int, 0 ≤ rd bs j ∧ rd bs j < 256) : ∀ k, ∀ x ∈ R bs k, Wd x
  | 0, x, hx => by
    simp only [R, W, List.mem_map] at hx; obtain ⟨i, _, rfl⟩ := hx
    exact word_wd bs i h
  | k + 1, x, hx => by
    simp only [R, List.mem_append, List.mem_singleton] at hx; rcases hx with hx | rfl
    · exact R_wd bs h k x hx
    · exact wd_mod _
theorem getD_wd {l : List Int} (h : ∀ x ∈ l, Wd x) (j : Nat) : Wd (l.getD j 0) := by
  rw [List.getD_eq_getElem?_getD]
  cases hj : l[j]? with
  | none => exact ⟨by decide, by decide⟩
  | some y => exact h y (List.mem_of_getElem? hj)
theorem sch0 (bs : List Int) (hl : bs.length = 64) (h : ∀ j : Int, 0 ≤ rd bs j ∧ rd bs j < 256) (K : Nat) : ∀ n, n ≤ 16 → rubrickref01_schedule.l0 (n + 1 + K) bs (W bs (16 - n)) (4 * (16 - n : Nat) : Int) = rubrickref01_schedule.l1 K (W bs 16) 16
  | 0, _ => by
    (rw [show 0 + 1 + K = K + 1 by omega]); simp only [rubrickref01_schedule.l0]
    rw [if_neg (by omega)]
  | n + 1, hn => by
    obtain ⟨m, hm⟩ : ∃ m, 16 - (n + 1) = m := ⟨_, rfl⟩; (have hm16 : 16 - n = m + 1 := by omega); (have ih := sch0 bs hl h K n (by omega)); rw [hm16] at ih; (rw [hm, show n + 1 + 1 + K = (n + 1 + K) + 1 by omega]); (have e1 : wrap64 (4 * (m : Int) + 1) = 4 * (m : Int) + 1 := by unfold wrap64; omega); (have e2 : wrap64 (4 * (m : Int) + 2) = 4 * (m : Int) + 2 := by unfold wrap64; omega); (have e3 : wrap64 (4 * (m : Int) + 3) = 4 * (m : Int) + 3 := by unfold wrap64; omega); (have e4 : wrap64 (4 * (m : Int) + 4) = 4 * ((m + 1 : Nat) : Int) := by unfold wrap64; omega); simp only [rubrickref01_schedule.l0, e1, e2, e3, e4, hl, W_len]; (rw [if_pos (by omega), if_pos (by omega), if_pos (by omega), if_pos (by omega), if_pos (by omega), if_pos (by omega), if_pos (by omega), if_pos (by omega), if_pos (by omega), if_pos (by omega), ← word_sum bs m h, ← W_succ]); exact ih
theorem sch1 (bs : List Int) (h : ∀ j : Int, 0 ≤ rd bs j ∧ rd bs j < 256) (K : Nat) : ∀ n, n ≤ 48 → rubrickref01_schedule.l1 (n + 1 + K) (R bs (48 - n)) (64 - n : Int) = some (R bs 48)
  | 0, _ => by
    (rw [show 0 + 1 + K = K + 1 by omega]); simp only [rubrickref01_schedule.l1]
    rw [if_neg (by omega)]
  | n + 1, hn => by
    obtain ⟨m, hm⟩ : ∃ m, 48 - (n + 1) = m := ⟨_, rfl⟩; (have hm48 : 48 - n = m + 1 := by omega); (have hx : (64 - (n + 1 : Nat) : Int) = m + 16 := by omega); (have ih := sch1 bs h K n (by omega)); (rw [hm48, show (64 - n : Int) = m + 17 by omega] at ih); (rw [hm, show n + 1 + 1 + K = (n + 1 + K) + 1 by omega, hx]); (have e1 : wrap64 ((m : Int) + 16 - 15) = m + 1 := by unfold wrap64; omega); (have e2 : wrap64 ((m : Int) + 16 - 2) = m + 14 := by unfold wrap64; omega); (have e3 : wrap64 ((m : Int) + 16 - 16) = m := by unfold wrap64; omega); (have e4 : wrap64 ((m : Int) + 16 - 7) = m + 9 := by unfold wrap64; omega); (have e5 : wrap64 ((m : Int) + 16 + 1) = m + 17 := by unfold wrap64; omega); (have r : ∀ j : Nat, rd (R bs m) ((m : Int) + j) = (R bs m).getD (m + j) 0 := fun j => by unfold rd; rw [show ((m : Int) + j).toNat = m + j by omega]); have r0 : rd (R bs m) (m : Int) = (R bs m).getD m 0 := r 0; have r1 : rd (R bs m) ((m : Int) + 1) = (R bs m).getD (m + 1) 0 := r 1; have r9 : rd (R bs m) ((m : Int) + 9) = (R bs m).getD (m + 9) 0 := r 9; have r14 : rd (R bs m) ((m : Int) + 14) = (R bs m).getD (m + 14) 0 := r 14; have w1 := getD_wd (R_wd bs h m) (m + 1); have w14 := getD_wd (R_wd bs h m) (m + 14); simp only [rubrickref01_schedule.l1, e1, e2, e3, e4, e5, r0, r1, r9, r14, R_len]; (rw [rightF _ w1 7 (by omega), rightF _ w1 18 (by omega), rightF _ w14 17 (by omega), rightF _ w14 19 (by omega)]); simp only [Option.bind_some]; (rw [if_pos (by omega), if_pos (by omega), if_pos (by omega), if_pos (by omega), if_pos (by omega), if_pos (by omega), if_pos (by omega), if_pos (by omega), if_pos (by omega), if_pos (by omega)])
    have e : R bs (m + 1) = R bs m ++ [(((((R bs m).getD m 0 + Go.bits .xor .u32 (Go.bits .xor .u32 (turn ((R bs m).getD (m + 1) 0) 7) (turn ((R bs m).getD (m + 1) 0) 18)) ((R bs m).getD (m + 1) 0 / 8)) % 4294967296) + (R bs m).getD (m + 9) 0) % 4294967296 + Go.bits .xor .u32 (Go.bits .xor .u32 (turn ((R bs m).getD (m + 14) 0) 17) (turn ((R bs m).getD (m + 14) 0) 19)) ((R bs m).getD (m + 14) 0 / 1024)) % 4294967296] := by
      rw [R]
      congr 2
      unfold next; omega
    rw [e] at ih; exact ih
theorem schF (bs : List Int) (hl : bs.length = 64) (h : ∀ j : Int, 0 ≤ rd bs j ∧ rd bs j < 256) (K : Nat) : rubrickref01_schedule.f (66 + K) bs = some (sch bs 48) := by
  unfold rubrickref01_schedule.f; (have h0 := sch0 bs hl h (49 + K) 16 (by omega)); (have h1 := sch1 bs h K 48 (by omega)); (rw [show 16 + 1 + (49 + K) = 66 + K by omega] at h0); (rw [show 48 + 1 + K = 49 + K by omega] at h1); rw [sch_R, ← h1]; exact h0
structure WV (v : V8) : Prop where
  a : Wd v.a
  b : Wd v.b
  c : Wd v.c
  d : Wd v.d
  e : Wd v.e
  f : Wd v.f
  g : Wd v.g
  h : Wd v.h
theorem rnd_wd {v : V8} (hv : WV v) (ws : List Int) (i : Nat) : WV (rnd ws v i) := ⟨wd_mod _, hv.a, hv.b, hv.c, wd_mod _, hv.e, hv.f, hv.g⟩
theorem rnds_wd {v : V8} (hv : WV v) (ws : List Int) : ∀ k, WV (rnds ws v k)
  | 0 => hv
  | k + 1 => rnd_wd (rnds_wd hv ws k) ws k
theorem add_wd (v u : V8) : WV (v.add u) := ⟨wd_mod _, wd_mod _, wd_mod _, wd_mod _, wd_mod _, wd_mod _, wd_mod _, wd_mod _⟩
theorem mix_wd (v : V8) (bs : List Int) : WV (mix v bs) := add_wd _ _
theorem init_wd : WV init := ⟨⟨by decide, by decide⟩, ⟨by decide, by decide⟩, ⟨by decide, by decide⟩, ⟨by decide, by decide⟩, ⟨by decide, by decide⟩, ⟨by decide, by decide⟩, ⟨by decide, by decide⟩, ⟨by decide, by decide⟩⟩
theorem constF : rubrickref01_constants.f = some consts := rfl
set_option maxHeartbeats 1000000 in
theorem block0 (v u : V8) (hu : WV u) (ws : List Int) (hw : ws.length = 64) (K : Nat) : ∀ n, n ≤ 64 → rubrickref01_block.l0 (n + 1 + K) v.list ws consts (rnds ws u (64 - n)).a (rnds ws u (64 - n)).b (rnds ws u (64 - n)).c (rnds ws u (64 - n)).d (rnds ws u (64 - n)).e (rnds ws u (64 - n)).f (rnds ws u (64 - n)).g (rnds ws u (64 - n)).h (64 - n : Int) = some (v.add (rnds ws u 64)).list
  | 0, _ => by
    (rw [show 0 + 1 + K = K + 1 by omega]); simp only [rubrickref01_block.l0]; (rw [if_neg (by omega)])
    simp [V8.list, V8.add, rd]
  | n + 1, hn => by
    obtain ⟨m, hm⟩ : ∃ m, 64 - (n + 1) = m := ⟨_, rfl⟩; (have hm64 : 64 - n = m + 1 := by omega); (have hx : (64 - (n + 1 : Nat) : Int) = m := by omega); (have ih := block0 v u hu ws hw K n (by omega)); (rw [hm64, show (64 - n : Int) = m + 1 by omega] at ih); (rw [hm, show n + 1 + 1 + K = (n + 1 + K) + 1 by omega, hx]); have hv := rnds_wd hu ws m; have hs : rnds ws u (m + 1) = rnd ws (rnds ws u m) m := rfl; rw [hs] at ih; (generalize rnds ws u m = y at hv ih ⊢); (have e5 : wrap64 ((m : Int) + 1) = m + 1 := by unfold wrap64; omega); (have r1 : rd ws (m : Int) = ws.getD m 0 := by unfold rd; rw [Int.toNat_natCast]); (have r2 : rd consts (m : Int) = consts.getD m 0 := by unfold rd; rw [Int.toNat_natCast]); have hcl : consts.length = 64 := rfl; simp only [rubrickref01_block.l0, e5, r1, r2, hw, hcl]; (rw [rightF _ hv.e 6 (by omega), rightF _ hv.e 11 (by omega), rightF _ hv.e 25 (by omega), rightF _ hv.a 2 (by omega), rightF _ hv.a 13 (by omega), rightF _ hv.a 22 (by omega)]); simp only [Option.bind_some]; (rw [if_pos (by omega), if_pos (by omega), if_pos (by omega), if_pos (by omega)]); simp only [rnd] at ih
    have ea : (tee y.e y.f y.g y.h (consts.getD m 0) (ws.getD m 0) + you y.a y.b y.c) % 4294967296 = (((((y.h + Go.bits .xor .u32 (Go.bits .xor .u32 (turn y.e 6) (turn y.e 11)) (turn y.e 25)) % 4294967296 + Go.bits .xor .u32 (Go.bits .and .u32 y.e y.f) (Go.bits .and .u32 (Go.bits .xor .u32 4294967295 y.e) y.g)) % 4294967296 + consts.getD m 0) % 4294967296 + ws.getD m 0) % 4294967296 + (Go.bits .xor .u32 (Go.bits .xor .u32 (turn y.a 2) (turn y.a 13)) (turn y.a 22) + Go.bits .xor .u32 (Go.bits .xor .u32 (Go.bits .and .u32 y.a y.b) (Go.bits .and .u32 y.a y.c)) (Go.bits .and .u32 y.b y.c)) % 4294967296) % 4294967296 := by
      unfold tee you; omega
    have ee : (y.d + tee y.e y.f y.g y.h (consts.getD m 0) (ws.getD m 0)) % 4294967296 = (y.d + ((((y.h + Go.bits .xor .u32 (Go.bits .xor .u32 (turn y.e 6) (turn y.e 11)) (turn y.e 25)) % 4294967296 + Go.bits .xor .u32 (Go.bits .and .u32 y.e y.f) (Go.bits .and .u32 (Go.bits .xor .u32 4294967295 y.e) y.g)) % 4294967296 + consts.getD m 0) % 4294967296 + ws.getD m 0) % 4294967296) % 4294967296 := by
      unfold tee; omega
    rw [ea, ee] at ih; exact ih
theorem blockF (v : V8) (hv : WV v) (bs : List Int) (hl : bs.length = 64) (h : ∀ j : Int, 0 ≤ rd bs j ∧ rd bs j < 256) (K : Nat) : rubrickref01_block.f (66 + K) v.list bs = some (mix v bs).list := by
  unfold rubrickref01_block.f; rw [schF bs hl h K, constF]; simp only [Option.bind_some]; (have hb := block0 v v hv (sch bs 48) (sch_len bs 48) (K + 1) 64 (by omega)); (rw [show 64 + 1 + (K + 1) = 66 + K by omega] at hb); (rw [if_pos (by simp [V8.list]), if_pos (by simp [V8.list]), if_pos (by simp [V8.list]), if_pos (by simp [V8.list]), if_pos (by simp [V8.list]), if_pos (by simp [V8.list]), if_pos (by simp [V8.list]), if_pos (by simp [V8.list])]); exact hb
theorem rd_bytes {l : List Int} (h : ∀ x ∈ l, 0 ≤ x ∧ x < 256) (j : Int) : 0 ≤ rd l j ∧ rd l j < 256 := by
  unfold rd; rw [List.getD_eq_getElem?_getD]
  cases hj : l[j.toNat]? with
  | none => exact ⟨by decide, by decide⟩
  | some y => exact h y (List.mem_of_getElem? hj)
theorem sum0 (p : List Int) (hp : ∀ x ∈ p, 0 ≤ x ∧ x < 256) (hlim : p.length ≤ 4000000000000) (K : Nat) : ∀ (n i : Nat) (v : V8), WV v → p.length = 64 * i + 64 * n →
    WV (absorbs v (p.drop (64 * i))).1 ∧ rubrickref01_Sum.l0 (n + 1 + 66 + K) v.list p (64 * i : Int) = rubrickref01_Sum.l1 (66 + K) (absorbs v (p.drop (64 * i))).1.list [] 0
  | 0, i, v, hv, hl => by
    (have hd : p.drop (64 * i) = [] := List.drop_eq_nil_of_le (by omega)); (rw [hd, absorbs_end (by simp), show 0 + 1 + 66 + K = (66 + K) + 1 by omega]); refine ⟨hv, ?_⟩; simp only [rubrickref01_Sum.l0]
    rw [if_neg (by omega)]
  | n + 1, i, v, hv, hl => by
    (have hc : (p.take (64 * i + 64)).drop (64 * i) = (p.drop (64 * i)).take 64 := by rw [List.drop_take, show 64 * i + 64 - 64 * i = 64 by omega]); (have hcl : ((p.drop (64 * i)).take 64).length = 64 := by rw [List.length_take, List.length_drop]; omega); (have hcb : ∀ x ∈ (p.drop (64 * i)).take 64, 0 ≤ x ∧ x < 256 := fun x hx => hp x (List.mem_of_mem_drop (List.mem_of_mem_take hx))); (have ih := sum0 p hp hlim K n (i + 1) (mix v ((p.drop (64 * i)).take 64)) (mix_wd _ _) (by omega)); have hb := blockF v hv _ hcl (rd_bytes hcb) (n + 1 + K); (rw [absorbs_step (v := v) (l := p.drop (64 * i)) (by rw [List.length_drop]; omega), List.drop_drop, show 64 * i + 64 = 64 * (i + 1) by omega]); refine ⟨ih.1, ?_⟩; (rw [show n + 1 + 1 + 66 + K = (n + 1 + 66 + K) + 1 by omega]); (have e : wrap64 (64 * (i : Int) + 64) = 64 * ((i + 1 : Nat) : Int) := by unfold wrap64; omega); (have t1 : (64 * ((i + 1 : Nat) : Int)).toNat = 64 * i + 64 := by omega); (have t2 : (64 * (i : Int)).toNat = 64 * i := by omega); simp only [rubrickref01_Sum.l0, e, t1, t2, hc]; (rw [if_pos (by omega), if_pos (by omega), if_pos (by omega), if_pos (by omega), show n + 1 + 66 + K = 66 + (n + 1 + K) by omega, hb]); simp only [Option.bind_some]; (rw [show 66 + (n + 1 + K) = n + 1 + 66 + K by omega]); exact ih.2
theorem list_wd {y : V8} (hy : WV y) : ∀ x ∈ y.list, Wd x := by
  intro x hx; simp only [V8.list, List.mem_cons, List.not_mem_nil, or_false] at hx; rcases hx with rfl | rfl | rfl | rfl | rfl | rfl | rfl | rfl
  · exact hy.a
  · exact hy.b
  · exact hy.c
  · exact hy.d
  · exact hy.e
  · exact hy.f
  · exact hy.g
  · exact hy.h
theorem sum1 (y : V8) (hy : WV y) (K : Nat) : ∀ n, n ≤ 8 → rubrickref01_Sum.l1 (n + 1 + K) y.list (outB y (8 - n)) (8 - n : Int) = some (strOfNums (outB y 8))
  | 0, _ => by
    (rw [show 0 + 1 + K = K + 1 by omega]); simp only [rubrickref01_Sum.l1]
    rw [if_neg (by omega)]
  | n + 1, hn => by
    obtain ⟨m, hm⟩ : ∃ m, 8 - (n + 1) = m := ⟨_, rfl⟩; (have hm8 : 8 - n = m + 1 := by omega); (have hx : (8 - (n + 1 : Nat) : Int) = m := by omega); (have ih := sum1 y hy K n (by omega)); (rw [hm8, show (8 - n : Int) = m + 1 by omega] at ih); (rw [hm, show n + 1 + 1 + K = (n + 1 + K) + 1 by omega, hx]); (have e5 : wrap64 ((m : Int) + 1) = m + 1 := by unfold wrap64; omega); (have r1 : rd y.list (m : Int) = y.list.getD m 0 := by unfold rd; rw [Int.toNat_natCast]); have hq := getD_wd (list_wd hy) m; have hyl : y.list.length = 8 := rfl; simp only [rubrickref01_Sum.l1, e5, r1, hyl, Option.bind_some]; simp only [outB] at ih; (generalize y.list.getD m 0 = q at hq ih ⊢); obtain ⟨h0, h1⟩ := hq; (rw [if_pos (by omega), if_pos (by omega), if_pos (by omega), if_pos (by simp [outB_len]; omega)]); rw [Int.tdiv_eq_ediv_of_nonneg h0, Int.tdiv_eq_ediv_of_nonneg h0, Int.tdiv_eq_ediv_of_nonneg h0, Int.tmod_eq_emod_of_nonneg h0]; (rw [show q / 16777216 % 4294967296 % 256 = q / 16777216 % 256 by omega, show q / 65536 % 4294967296 % 256 = q / 65536 % 256 by omega, show q / 256 % 4294967296 % 256 = q / 256 % 256 by omega, show q % 256 % 256 = q % 256 by omega]); exact ih
def D (n : Int) : Nat → Int
  | 0 => n
  | i + 1 => D n i / 256
def T (n : Int) : Nat → List Int
  | 0 => []
  | i + 1 => (D n i % 256) :: T n i
theorem T_len (n : Int) : ∀ i, (T n i).length = i
  | 0 => rfl
  | i + 1 => by simp [T, T_len n i]
theorem D_rng {n : Int} (h : 0 ≤ n) (h2 : n < 18446744073709551616) : ∀ i, 0 ≤ D n i ∧ D n i < 18446744073709551616
  | 0 => ⟨h, h2⟩
  | i + 1 => by have := D_rng h h2 i; simp only [D]; omega
theorem lenB_T (n : Int) : lenB n 8 = T n 8 := by
  simp only [lenB, T, D, List.nil_append, List.cons_append]; (simp only [show ((2 : Int) ^ (56 - 8 * 0)) = 72057594037927936 from rfl, show ((2 : Int) ^ (56 - 8 * 1)) = 281474976710656 from rfl, show ((2 : Int) ^ (56 - 8 * 2)) = 1099511627776 from rfl, show ((2 : Int) ^ (56 - 8 * 3)) = 4294967296 from rfl, show ((2 : Int) ^ (56 - 8 * 4)) = 16777216 from rfl, show ((2 : Int) ^ (56 - 8 * 5)) = 65536 from rfl, show ((2 : Int) ^ (56 - 8 * 6)) = 256 from rfl, show ((2 : Int) ^ (56 - 8 * 7)) = 1 from rfl, List.cons.injEq, and_true])
  (repeat' apply And.intro) <;> first | trivial | omega
theorem wrap_u64 (n : Int) : IntKind.u64.wrap n = n % 18446744073709551616 := by simp [IntKind.wrap, IntKind.bits, IntKind.signed]
theorem pad1 (x3 : List Int) (n8 : Int) (h0 : 0 ≤ n8) (h1 : n8 < 18446744073709551616) (hl : x3.length ≤ 4000000000000) (K : Nat) : ∀ n, n ≤ 8 → rubrickref01_padded.l1 (n + 1 + K) x3 (D n8 (8 - n)) (T n8 (8 - n)) (8 - n : Int) = some (x3 ++ T n8 8)
  | 0, _ => by
    (rw [show 0 + 1 + K = K + 1 by omega]); simp only [rubrickref01_padded.l1]
    rw [if_neg (by omega), if_pos (by rw [T_len]; omega)]
  | n + 1, hn => by
    obtain ⟨m, hm⟩ : ∃ m, 8 - (n + 1) = m := ⟨_, rfl⟩; (have hm8 : 8 - n = m + 1 := by omega); (have hx : (8 - (n + 1 : Nat) : Int) = m := by omega); (have ih := pad1 x3 n8 h0 h1 hl K n (by omega)); (rw [hm8, show (8 - n : Int) = m + 1 by omega] at ih); (rw [hm, show n + 1 + 1 + K = (n + 1 + K) + 1 by omega, hx]); (have e5 : wrap64 ((m : Int) + 1) = m + 1 := by unfold wrap64; omega); have hr := D_rng h0 h1 m; simp only [rubrickref01_padded.l1, e5, Option.bind_some, T_len]; simp only [D, T] at ih; (generalize D n8 m = q at hr ih ⊢); (rw [if_pos (by omega), if_pos (by simp; omega), Int.tdiv_eq_ediv_of_nonneg hr.1, Int.tmod_eq_emod_of_nonneg hr.1, wrap_u64, show q / 256 % 18446744073709551616 = q / 256 by omega, show q % 256 % 256 = q % 256 by omega]); exact ih
theorem pad0 (l : List Int) (hl : l.length ≤ 1000000000000) (K : Nat) : ∀ n, n ≤ zeros l.length → rubrickref01_padded.l0 (n + 1 + K) l (l ++ (128 :: List.replicate (zeros l.length - n) 0)) = rubrickref01_padded.l1 K (l ++ (128 :: List.replicate (zeros l.length) 0)) ((l.length : Int) * 8) [] 0
  | 0, _ => by
    (have hz := (zeros_spec (l.length : Int) (by omega) (zeros l.length) (Nat.le_refl _)).2 rfl); (rw [show 0 + 1 + K = K + 1 by omega]); simp only [rubrickref01_padded.l0, Nat.sub_zero]
    rw [if_pos (by simp only [List.length_append, List.length_cons, List.length_replicate]; omega), wrap_u64, wrap_u64, show (l.length : Int) % 18446744073709551616 * 8 % 18446744073709551616 = (l.length : Int) * 8 by omega]
  | n + 1, hn => by
    have hlt := zeros_lt (l.length : Int); obtain ⟨m, hm⟩ : ∃ m, zeros l.length - (n + 1) = m := ⟨_, rfl⟩; (have hm8 : zeros l.length - n = m + 1 := by omega); (have ih := pad0 l hl K n (by omega)); rw [hm8, List.replicate_succ', ← List.cons_append, ← List.append_assoc] at ih; (rw [hm, show n + 1 + 1 + K = (n + 1 + K) + 1 by omega]); (have hz := mt (zeros_spec (l.length : Int) (by omega) m (by omega)).1 (by omega)); simp only [rubrickref01_padded.l0]; (rw [if_neg (by simp only [List.length_append, List.length_cons, List.length_replicate]; omega), if_pos (by simp only [List.length_append, List.length_cons, List.length_replicate]; omega)]); exact ih
theorem padF (l : List Int) (hl : l.length ≤ 1000000000000) (K : Nat) : rubrickref01_padded.f (80 + K) l = some (l ++ tail l.length) := by
  have hz := zeros_lt (l.length : Int); (obtain ⟨J, hJ⟩ : ∃ J, 80 + K = zeros l.length + 1 + (8 + 1 + J) := ⟨80 + K - (zeros l.length + 10), by omega⟩); have h0 := pad0 l hl (8 + 1 + J) (zeros l.length) (Nat.le_refl _); (have h1 := pad1 (l ++ (128 :: List.replicate (zeros l.length) 0)) ((l.length : Int) * 8) (by omega) (by omega) (by simp only [List.length_append, List.length_cons, List.length_replicate]; omega) J 8 (Nat.le_refl _)); unfold rubrickref01_padded.f; simp only [Option.bind_some, List.nil_append, List.length_nil, Nat.zero_add]; (rw [if_pos (by omega), if_pos (by omega), hJ]); rw [Nat.sub_self] at h0; rw [tail, lenB_T, ← List.append_assoc]; exact h0.trans h1
theorem absorbs_app (v : V8) (l t : List Int) : absorbs (absorbs v l).1 ((absorbs v l).2 ++ t) = absorbs v (l ++ t) := by
  obtain ⟨n, hn⟩ : ∃ n, l.length = n := ⟨_, rfl⟩
  induction n using Nat.strongRecOn generalizing v l with
  | _ n ih =>
    by_cases h : 64 ≤ l.length
    · rw [absorbs_step h, absorbs_step (l := l ++ t) (by rw [List.length_append]; omega), List.take_append_of_le_length h, List.drop_append_of_le_length h]
      exact ih (l.drop 64).length (by rw [List.length_drop]; omega) _ _ rfl
    · rw [absorbs_end (v := v) (l := l) (by omega)]
theorem shaSum_eq (l : List Int) : shaSum l = strOfNums (outB (absorbs init (l ++ tail l.length)).1 8) := by
  unfold shaSum endS; rw [absorbs_app]
theorem lenB_bytes (n : Int) : ∀ k, ∀ x ∈ lenB n k, 0 ≤ x ∧ x < 256
  | 0, x, hx => by simp [lenB] at hx
  | k + 1, x, hx => by
    simp only [lenB, List.mem_append, List.mem_singleton] at hx; rcases hx with hx | rfl
    · exact lenB_bytes n k x hx
    · exact ⟨Int.emod_nonneg _ (by decide), Int.emod_lt_of_pos _ (by decide)⟩
theorem tail_bytes (n : Int) : ∀ x ∈ tail n, 0 ≤ x ∧ x < 256 := by
  intro x hx; simp only [tail, List.mem_append, List.mem_cons, List.mem_replicate] at hx; rcases hx with (rfl | ⟨_, rfl⟩) | hx
  · exact ⟨by decide, by decide⟩
  · exact ⟨by decide, by decide⟩
  · exact lenB_bytes _ _ x hx
theorem refF (l : List Int) (hb : ∀ x ∈ l, 0 ≤ x ∧ x < 256) (hl : l.length ≤ 1000000000000) (k : Nat) (hk : l.length + 300 ≤ k) : rubrickref01_Sum.f k l = some (shaSum l) := by
  have htl := tail_len (l.length : Int); have hz := zeros_lt (l.length : Int)
  have hall : (l ++ tail l.length).length % 64 = 0 := by
    rw [List.length_append, htl]; (have := (zeros_spec (l.length : Int) (by omega) (zeros l.length) (Nat.le_refl _)).2 rfl); omega
  (obtain ⟨n, hn⟩ : ∃ n, (l ++ tail l.length).length = 64 * 0 + 64 * n := ⟨(l ++ tail l.length).length / 64, by omega⟩); (have hpl : (l ++ tail l.length).length = l.length + (1 + zeros l.length + 8) := by rw [List.length_append, htl]); (obtain ⟨K, hK⟩ : ∃ K, k = n + 1 + 66 + K := ⟨k - (n + 67), by omega⟩); (obtain ⟨K2, hK2⟩ : ∃ K2, k = 80 + K2 := ⟨k - 80, by omega⟩)
  have hs := sum0 (l ++ tail l.length) (fun x hx => by
    rcases List.mem_append.1 hx with hx | hx
    · exact hb x hx
    · exact tail_bytes _ x hx) (by omega) K n 0 init init_wd hn
  have h1 := sum1 _ hs.1 (57 + K) 8 (Nat.le_refl _); unfold rubrickref01_Sum.f; have hp := padF l hl K2; rw [← hK2] at hp; rw [hp]; simp only [Option.bind_some]; rw [shaSum_eq, hK]; (refine (show rubrickref01_Sum.l0 (n + 1 + 66 + K) init.list (l ++ tail l.length) 0 = _ from hs.2).trans ?_); (rw [show 66 + K = 8 + 1 + (57 + K) by omega]); exact h1
end Go.Proofs.YtpmefpdafkbphaaDoor.PureR

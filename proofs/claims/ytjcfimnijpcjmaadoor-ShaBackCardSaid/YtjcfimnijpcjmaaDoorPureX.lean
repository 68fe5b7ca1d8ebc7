/- Digits in plain Lean: the printed functions Hex and FromHex, the program's and the document's. -/
import Derived.Test.YtjcfimnijpcjmaaDoorPX
import Derived.Test.YtjcfimnijpcjmaaDoorPureS
namespace Go.Proofs.YtjcfimnijpcjmaaDoor.PureX
open Go.RowKit Go.Proofs.YtjcfimnijpcjmaaDoor.HSha Go.Proofs.YtjcfimnijpcjmaaDoor.PS Go.Proofs.YtjcfimnijpcjmaaDoor.PX Go.Proofs.YtjcfimnijpcjmaaDoor.PureS Go.Proofs.YtjcfimnijpcjmaaDoorW.PrintWords Go.Proofs.YtjcfimnijpcjmaaDoorW.PrintLast
/-- A digit of a number below 16; the digits of bytes. -/
def dg (n : Int) : Int := if n > 9 then 87 + n else 48 + n
def hexL : List Int → List Int
  | [] => []
  | b :: r => dg (b / 16) :: dg (b % 16) :: hexL r
theorem hexL_app : ∀ (a b : List Int), hexL (a ++ b) = hexL a ++ hexL b
  | [], _ => rfl
  | x :: r, b => by simp [hexL, hexL_app r b]
theorem hexL_len : ∀ l : List Int, (hexL l).length = 2 * l.length
  | [] => rfl
  | b :: r => by simp [hexL, hexL_len r]; omega
def tab : ByteArray := ⟨#[48, 49, 50, 51, 52, 53, 54, 55, 56, 57, 97, 98, 99, 100, 101, 102]⟩
theorem tab_at (n : Int) (h0 : 0 ≤ n) (h1 : n < 16) : bt tab n = dg n := by
  have : n = 0 ∨ n = 1 ∨ n = 2 ∨ n = 3 ∨ n = 4 ∨ n = 5 ∨ n = 6 ∨ n = 7 ∨ n = 8 ∨ n = 9 ∨ n = 10 ∨ n = 11 ∨ n = 12 ∨ n = 13 ∨ n = 14 ∨ n = 15 := by omega
  rcases this with rfl | rfl | rfl | rfl | rfl | rfl | rfl | rfl | rfl | rfl | rfl | rfl | rfl | rfl | rfl | rfl <;> rfl
theorem bt_take (s : ByteArray) (m : Nat) (hm : m < s.size) : (bytesOf s).take (m + 1) = (bytesOf s).take m ++ [bt s m] := by
  have hl : m < (bytesOf s).length := by rw [bytesOf_length]; exact hm
  rw [List.take_succ_eq_append_getElem hl, ← rd_bytesOf]
  congr 2
  unfold rd
  rw [Int.toNat_natCast, List.getD_eq_getElem?_getD, List.getElem?_eq_getElem hl]
  rfl
theorem hex0 (s : ByteArray) (hs : s.size ≤ 100000000) (K : Nat) : ∀ n, n ≤ s.size → sha_Hex.l0 (n + 1 + K) s (hexL ((bytesOf s).take (s.size - n))) (s.size : Int) ((s.size - n : Nat) : Int) = some (strOfNums (hexL (bytesOf s)))
  | 0, _ => by
    rw [show 0 + 1 + K = K + 1 by omega, Nat.sub_zero, ← bytesOf_length, List.take_length]
    simp only [sha_Hex.l0]
    rw [if_neg (by omega)]
  | n + 1, hn => by
    obtain ⟨m, hm⟩ : ∃ m, s.size - (n + 1) = m := ⟨_, rfl⟩
    have ih := hex0 s hs K n (by omega)
    rw [show s.size - n = m + 1 by omega, bt_take s m (by omega), hexL_app] at ih
    rw [hm, show n + 1 + 1 + K = (n + 1 + K) + 1 by omega]
    have e : wrap64 ((m : Int) + 1) = ((m + 1 : Nat) : Int) := by unfold wrap64; omega
    have hr := bt_range s m
    have hlen : (hexL ((bytesOf s).take m)).length ≤ 2 * m := by rw [hexL_len, List.length_take]; omega
    have ha : Go.bits .and .u8 (bt s m) 15 = bt s m % 16 := u8_and15 _ hr.1 (by omega)
    have t1 : bt (⟨#[48, 49, 50, 51, 52, 53, 54, 55, 56, 57, 97, 98, 99, 100, 101, 102]⟩ : ByteArray) (bt s m / 16) = dg (bt s m / 16) := tab_at _ (by omega) (by omega)
    have t2 : bt (⟨#[48, 49, 50, 51, 52, 53, 54, 55, 56, 57, 97, 98, 99, 100, 101, 102]⟩ : ByteArray) (bt s m % 16) = dg (bt s m % 16) := tab_at _ (by omega) (by omega)
    simp only [sha_Hex.l0, e, ha, t1, t2, Option.bind_some]
    rw [if_pos (by omega), if_pos (by omega), if_pos (by omega), if_pos (by omega), if_pos (by omega), if_pos (by omega), if_pos (by omega), if_pos (by simp; omega)]
    exact ih
theorem hexF (s : ByteArray) (hs : s.size ≤ 100000000) (k : Nat) (hk : s.size + 1 ≤ k) : sha_Hex.f k s = some (strOfNums (hexL (bytesOf s))) := by
  obtain ⟨K, rfl⟩ : ∃ K, k = s.size + 1 + K := ⟨k - (s.size + 1), by omega⟩
  have := hex0 s hs K s.size (Nat.le_refl _)
  rw [Nat.sub_self] at this
  exact this
theorem oneF (n : Int) (h0 : 0 ≤ n) (h1 : n < 16) : rubrickref01_one.f n = some (dg n) := by
  unfold rubrickref01_one.f dg
  split
  · congr 1; omega
  · congr 1; omega
theorem rhex0 (s : ByteArray) (hs : s.size ≤ 100000000) (K : Nat) : ∀ n, n ≤ s.size → rubrickref01_Hex.l0 (n + 1 + K) s (hexL ((bytesOf s).take (s.size - n))) ((s.size - n : Nat) : Int) = some (strOfNums (hexL (bytesOf s)))
  | 0, _ => by
    rw [show 0 + 1 + K = K + 1 by omega, Nat.sub_zero]
    simp only [rubrickref01_Hex.l0]
    rw [if_neg (by omega), ← bytesOf_length, List.take_length]
  | n + 1, hn => by
    obtain ⟨m, hm⟩ : ∃ m, s.size - (n + 1) = m := ⟨_, rfl⟩
    have ih := rhex0 s hs K n (by omega)
    rw [show s.size - n = m + 1 by omega, bt_take s m (by omega), hexL_app] at ih
    rw [hm, show n + 1 + 1 + K = (n + 1 + K) + 1 by omega]
    have e : wrap64 ((m : Int) + 1) = ((m + 1 : Nat) : Int) := by unfold wrap64; omega
    have hr := bt_range s m
    have hlen : (hexL ((bytesOf s).take m)).length ≤ 2 * m := by rw [hexL_len, List.length_take]; omega
    have o1 : rubrickref01_one.f (Int.tdiv (bt s m) 16 % 256) = some (dg (bt s m / 16)) := by
      rw [Int.tdiv_eq_ediv_of_nonneg hr.1, show bt s m / 16 % 256 = bt s m / 16 by omega]
      exact oneF _ (by omega) (by omega)
    have o2 : rubrickref01_one.f (Int.tmod (bt s m) 16) = some (dg (bt s m % 16)) := by
      rw [Int.tmod_eq_emod_of_nonneg hr.1]
      exact oneF _ (by omega) (by omega)
    simp only [rubrickref01_Hex.l0, e, o1, o2, Option.bind_some]
    rw [if_pos (by omega), if_pos (by omega), if_pos (by simp; omega)]
    exact ih
theorem rhexF (s : ByteArray) (hs : s.size ≤ 100000000) (k : Nat) (hk : s.size + 1 ≤ k) : rubrickref01_Hex.f k s = some (strOfNums (hexL (bytesOf s))) := by
  obtain ⟨K, rfl⟩ : ∃ K, k = s.size + 1 + K := ⟨k - (s.size + 1), by omega⟩
  have := rhex0 s hs K s.size (Nat.le_refl _)
  rw [Nat.sub_self] at this
  exact this
/-- What a digit stands for. -/
def dv (c : Int) : Int := if c ≥ 48 then (if c ≤ 57 then c - 48 else if c ≥ 97 then (if c ≤ 102 then c - 87 else 16) else 16) else 16
theorem digitF (k : Nat) (c : Int) (h0 : 0 ≤ c) (h1 : c ≤ 255) : sha_digit.f (k + 1) c = some (dv c) := by
  unfold sha_digit.f dv
  by_cases a : c ≥ 48
  · rw [if_pos a, if_pos a]
    by_cases b : c ≤ 57
    · rw [if_pos b, decide_eq_true b]
      simp only [sha_digit.j0, if_true]
      congr 1
      omega
    · rw [if_neg b, decide_eq_false b]
      simp only [sha_digit.j0, Bool.false_eq_true, if_false]
      by_cases d : c ≥ 97
      · rw [if_pos d, if_pos d]
        by_cases e : c ≤ 102
        · rw [if_pos e, if_pos e]
          congr 1
          omega
        · rw [if_neg e, if_neg e]
      · rw [if_neg d, if_neg d]
  · rw [if_neg a, if_neg a]
    simp only [sha_digit.j0, Bool.false_eq_true, if_false]
    rw [if_neg (by omega)]
theorem dv_rng (c : Int) : 0 ≤ dv c ∧ dv c ≤ 16 := by unfold dv; split <;> (try split) <;> (try split) <;> (try split) <;> omega
/-- The pairs read. -/
def fh : List Int → Option (List Int)
  | [] => some []
  | [_] => none
  | x :: y :: r => if dv x > 15 then none else if dv y > 15 then none else (fh r).map fun l => (16 * dv x + dv y) :: l
/-- The document's own arithmetic. -/
def g (a c : Int) : Int := if c ≥ 97 then ((((a * 16) % 256 + c) % 256 - 97) % 256 + 10) % 256 else (((a * 16) % 256 + c) % 256 - 48) % 256
def gl : List Int → List Int
  | x :: y :: r => g (g 0 x) y :: gl r
  | _ => []
theorem wraps_u8 (n : Int) (h₀ : 0 ≤ n) (h₁ : n < 2 ^ 8) : IntKind.u8.wrap n = n := by rw [IntKind.wrap_u8]; omega
theorem drop2 (s : ByteArray) (m : Nat) (h : m + 1 < s.size) : (bytesOf s).drop m = bt s m :: bt s (m + 1 : Nat) :: (bytesOf s).drop (m + 2) := by
  have hl : (bytesOf s).length = s.size := bytesOf_length s
  have e : ∀ j : Nat, ∀ hj : j < (bytesOf s).length, (bytesOf s)[j] = bt s j := fun j hj => by
    rw [← rd_bytesOf]
    unfold rd
    rw [Int.toNat_natCast, List.getD_eq_getElem?_getD, List.getElem?_eq_getElem hj]
    rfl
  rw [List.drop_eq_getElem_cons (by omega), List.drop_eq_getElem_cons (by omega), e, e]
theorem from0 (s : ByteArray) (hs : s.size ≤ 100000000) (K : Nat) : ∀ n, 2 * n ≤ s.size → ∀ acc : List Int, acc.length ≤ s.size - 2 * n →
    sha_FromHex.l0 (n + 2 + K) s acc ((s.size - 2 * n : Nat) : Int) = some (match fh ((bytesOf s).drop (s.size - 2 * n)) with | some l => (strOfNums (acc ++ l), 0) | none => (⟨#[]⟩, 2))
  | 0, _, acc, _ => by
    rw [show 0 + 2 + K = (K + 1) + 1 by omega, Nat.mul_zero, Nat.sub_zero, List.drop_eq_nil_of_le (by rw [bytesOf_length]; omega)]
    simp only [sha_FromHex.l0, fh, List.append_nil]
    rw [if_neg (by omega)]
  | n + 1, hn, acc, ha => by
    obtain ⟨m, hm⟩ : ∃ m, s.size - 2 * (n + 1) = m := ⟨_, rfl⟩
    have hmn : s.size - 2 * n = m + 2 := by omega
    rw [hm, drop2 s m (by omega), show n + 1 + 2 + K = (n + 2 + K) + 1 by omega]
    have e1 : wrap64 ((m : Int) + 1) = ((m + 1 : Nat) : Int) := by unfold wrap64; omega
    have e2 : wrap64 ((m : Int) + 2) = ((m + 2 : Nat) : Int) := by unfold wrap64; omega
    have r0 := bt_range s m
    have r1 := bt_range s (m + 1 : Nat)
    have d0 := digitF (n + 1 + K) (bt s m) r0.1 r0.2
    have d1 := digitF (n + 1 + K) (bt s (m + 1 : Nat)) r1.1 r1.2
    have v0 := dv_rng (bt s m)
    have v1 := dv_rng (bt s (m + 1 : Nat))
    rw [show n + 1 + K + 1 = n + 2 + K by omega] at d0 d1
    simp only [sha_FromHex.l0, e1, e2, d0, d1, Option.bind_some, fh]
    rw [if_pos (by omega), if_pos (by omega), if_pos (by omega), if_pos (by omega)]
    by_cases c0 : dv (bt s m) > 15
    · rw [if_pos c0, if_pos c0]
    · rw [if_neg c0, if_neg c0]
      by_cases c1 : dv (bt s (m + 1 : Nat)) > 15
      · rw [if_pos c1, if_pos c1]
      · rw [if_neg c1, if_neg c1, if_pos (by omega)]
        have ho : Go.bits .or .u8 (dv (bt s m) * 16 % 256) (dv (bt s (m + 1 : Nat))) = 16 * dv (bt s m) + dv (bt s (m + 1 : Nat)) := by
          rw [bits_join .u8 8 (by decide) wraps_u8 4 _ _ (by omega) (by omega) (by omega) (by omega) (by omega) (by omega)]
          omega
        rw [ho]
        have ih := from0 s hs K n (by omega) (acc ++ [16 * dv (bt s m) + dv (bt s (m + 1 : Nat))]) (by simp; omega)
        rw [hmn] at ih
        rw [ih]
        cases fh ((bytesOf s).drop (m + 2)) <;> simp
theorem fromF (s : ByteArray) (hs : s.size ≤ 100000000) (k : Nat) (hk : s.size + 3 ≤ k) : sha_FromHex.f k s = some (match fh (bytesOf s) with | some l => (strOfNums l, 0) | none => (⟨#[]⟩, 2)) := by
  unfold sha_FromHex.f
  by_cases he : s.size % 2 = 0
  · rw [if_pos (by omega)]
    obtain ⟨K, hK⟩ : ∃ K, k = s.size / 2 + 2 + K := ⟨k - (s.size / 2 + 2), by omega⟩
    have h := from0 s hs K (s.size / 2) (by omega) [] (by simp)
    rw [show s.size - 2 * (s.size / 2) = 0 by omega, ← hK] at h
    exact h
  · rw [if_neg (by omega)]
    have odd : ∀ (n : Nat) (l : List Int), l.length = 2 * n + 1 → fh l = none := by
      intro n
      induction n with
      | zero => intro l hl; match l, hl with | [_], _ => rfl
      | succ n ih =>
        intro l hl
        match l, hl with
        | x :: y :: r, hl =>
          simp only [fh]
          rw [ih r (by simp only [List.length_cons] at hl; omega)]
          split
          · rfl
          · split <;> rfl
    rw [odd (s.size / 2) (bytesOf s) (by rw [bytesOf_length]; omega)]
theorem rfrom0 (s : ByteArray) (hs : s.size ≤ 100000000) (H : Nat) : ∀ n, 2 * n ≤ s.size → ∀ acc : List Int, acc.length ≤ s.size - 2 * n →
    rubrickref01_FromHex.l0 (4 * n + 1 + H) s acc ((s.size - 2 * n : Nat) : Int) = (rubrickref01_Hex.f H (strOfNums (acc ++ gl ((bytesOf s).drop (s.size - 2 * n))))).bind fun t => if t.toList = s.toList then some (strOfNums (acc ++ gl ((bytesOf s).drop (s.size - 2 * n))), true) else some (⟨#[]⟩, false)
  | 0, _, acc, _ => by
    rw [show 4 * 0 + 1 + H = H + 1 by omega, Nat.mul_zero, Nat.sub_zero, List.drop_eq_nil_of_le (by rw [bytesOf_length]; omega)]
    simp only [rubrickref01_FromHex.l0, gl, List.append_nil]
    rw [if_neg (by omega)]
  | n + 1, hn, acc, ha => by
    obtain ⟨m, hm⟩ : ∃ m, s.size - 2 * (n + 1) = m := ⟨_, rfl⟩
    have hmn : s.size - 2 * n = m + 2 := by omega
    rw [hm, drop2 s m (by omega), show 4 * (n + 1) + 1 + H = (4 * n + 1 + H) + 1 + 1 + 1 + 1 by omega]
    have ih := rfrom0 s hs H n (by omega) (acc ++ [g (g 0 (bt s m)) (bt s (m + 1 : Nat))]) (by simp; omega)
    rw [hmn, List.append_assoc, List.singleton_append] at ih
    have e0 : wrap64 ((m : Int) + 0) = (m : Int) := by unfold wrap64; omega
    have e1 : wrap64 ((m : Int) + 1) = ((m + 1 : Nat) : Int) := by unfold wrap64; omega
    have e2 : wrap64 ((m : Int) + 2) = ((m + 2 : Nat) : Int) := by unfold wrap64; omega
    have w1 : wrap64 (0 + 1) = 1 := by unfold wrap64; omega
    have w2 : wrap64 (1 + 1) = 2 := by unfold wrap64; omega
    have step1 : ∀ (k : Nat) (x6 : Int), rubrickref01_FromHex.l1 (k + 1) s acc (m : Int) x6 0 = rubrickref01_FromHex.l1 k s acc (m : Int) (g x6 (bt s m)) 1 := by
      intro k x6
      simp only [rubrickref01_FromHex.l1, e0, w1]
      rw [if_pos (by omega), if_pos (by omega), if_pos (by omega)]
      unfold g
      split <;> rfl
    have step2 : ∀ (k : Nat) (x6 : Int), rubrickref01_FromHex.l1 (k + 1) s acc (m : Int) x6 1 = rubrickref01_FromHex.l1 k s acc (m : Int) (g x6 (bt s (m + 1 : Nat))) 2 := by
      intro k x6
      simp only [rubrickref01_FromHex.l1, e1, w2]
      rw [if_pos (by omega), if_pos (by omega), if_pos (by omega)]
      unfold g
      split <;> rfl
    have step3 : ∀ (k : Nat) (x6 : Int), rubrickref01_FromHex.l1 (k + 1) s acc (m : Int) x6 2 = rubrickref01_FromHex.l0 k s (acc ++ [x6]) ((m + 2 : Nat) : Int) := by
      intro k x6
      simp only [rubrickref01_FromHex.l1, e2]
      rw [if_neg (by omega), if_pos (by omega)]
    rw [rubrickref01_FromHex.l0, if_pos (by omega), step1, step2, step3]
    exact ih
theorem g_rng (a c : Int) : 0 ≤ g a c ∧ g a c < 256 := by unfold g; split <;> omega
theorem gl_len : ∀ (n : Nat) (l : List Int), l.length ≤ n → (gl l).length ≤ l.length ∧ ∀ x ∈ gl l, 0 ≤ x ∧ x < 256 := by
  intro n
  induction n using Nat.strongRecOn with
  | _ n ih =>
    intro l hl
    match l, hl with
    | [], _ => simp [gl]
    | [_], _ => simp [gl]
    | x :: y :: r, hl =>
      have h := ih (n - 2) (by simp only [List.length_cons] at hl; omega) r (by simp only [List.length_cons] at hl; omega)
      refine ⟨by simp only [gl, List.length_cons]; omega, fun z hz => ?_⟩
      simp only [gl, List.mem_cons] at hz
      rcases hz with rfl | hz
      · exact g_rng _ _
      · exact h.2 z hz
theorem g_dv (a c : Int) (h0 : 0 ≤ c) (h1 : c ≤ 255) (ha : 0 ≤ a ∧ a ≤ 15) (hd : ¬ dv c > 15) : g a c = 16 * a + dv c := by
  unfold g dv at *
  repeat' split at hd
  all_goals (split <;> omega)
theorem dg_dv (c : Int) (hd : ¬ dv c > 15) : dg (dv c) = c := by
  unfold dg dv at *
  repeat' split at hd
  all_goals (split <;> omega)
theorem dv_dg (n : Int) (h0 : 0 ≤ n) (h1 : n < 16) : dv (dg n) = n := by
  have : n = 0 ∨ n = 1 ∨ n = 2 ∨ n = 3 ∨ n = 4 ∨ n = 5 ∨ n = 6 ∨ n = 7 ∨ n = 8 ∨ n = 9 ∨ n = 10 ∨ n = 11 ∨ n = 12 ∨ n = 13 ∨ n = 14 ∨ n = 15 := by omega
  rcases this with rfl | rfl | rfl | rfl | rfl | rfl | rfl | rfl | rfl | rfl | rfl | rfl | rfl | rfl | rfl | rfl <;> rfl
theorem fh_hex : ∀ (l : List Int), (∀ x ∈ l, 0 ≤ x ∧ x < 256) → fh (hexL l) = some l
  | [], _ => rfl
  | b :: r, h => by
    have hb := h b (List.mem_cons_self ..)
    have ih := fh_hex r fun x hx => h x (List.mem_cons_of_mem _ hx)
    simp only [hexL, fh, ih]
    rw [dv_dg _ (by omega) (by omega), dv_dg _ (by omega) (by omega), if_neg (by omega), if_neg (by omega)]
    simp only [Option.map_some, Option.some.injEq, List.cons.injEq, and_true]
    omega
theorem fh_some : ∀ (n : Nat) (l q : List Int), l.length ≤ n → (∀ x ∈ l, 0 ≤ x ∧ x ≤ 255) → fh l = some q → gl l = q ∧ hexL q = l := by
  intro n
  induction n using Nat.strongRecOn with
  | _ n ih =>
    intro l q hl hb h
    match l, hl, hb, h with
    | [], _, _, h =>
      simp only [fh, Option.some.injEq] at h
      subst h
      exact ⟨rfl, rfl⟩
    | [_], _, _, h => simp [fh] at h
    | x :: y :: r, hl, hb, h =>
      simp only [fh] at h
      split at h
      · cases h
      · next hx =>
        split at h
        · cases h
        · next hy =>
          rw [Option.map_eq_some_iff] at h
          obtain ⟨p, hp, rfl⟩ := h
          have hr := ih (n - 2) (by simp only [List.length_cons] at hl; omega) r p (by simp only [List.length_cons] at hl; omega) (fun z hz => hb z (by simp [hz])) hp
          have bx := hb x (by simp)
          have by_ := hb y (by simp)
          have vx := dv_rng x
          have vy := dv_rng y
          have gx : g 0 x = dv x := by rw [g_dv 0 x bx.1 bx.2 (by omega) hx]; omega
          refine ⟨?_, ?_⟩
          · simp only [gl, gx, hr.1]
            rw [g_dv (dv x) y by_.1 by_.2 (by omega) hy]
          · simp only [hexL, hr.2]
            rw [show (16 * dv x + dv y) / 16 = dv x by omega, show (16 * dv x + dv y) % 16 = dv y by omega, dg_dv x hx, dg_dv y hy]
theorem str_bytes (s : ByteArray) : strOfNums (bytesOf s) = s := by
  have h : (strOfNums (bytesOf s)).data = s.data := by
    apply Array.ext'
    rw [strOfNums_data]
    simp [bytesOf, Function.comp_def]
  cases s
  exact congrArg ByteArray.mk h
theorem bytes_str (l : List Int) (h : ∀ x ∈ l, 0 ≤ x ∧ x < 256) : bytesOf (strOfNums l) = l := by
  unfold bytesOf
  rw [strOfNums_data, List.map_map]
  conv => rhs; rw [← List.map_id l]
  apply List.map_congr_left
  intro x hx
  have := h x hx
  simp only [Function.comp, id, UInt8.toNat_ofNat']
  omega
theorem toList_inj {s t : ByteArray} (h : s.toList = t.toList) : s = t := by
  rw [ByteArray.toList_eq, ByteArray.toList_eq] at h
  cases s
  cases t
  exact congrArg ByteArray.mk (Array.ext' h)
theorem dg_rng (n : Int) (h0 : 0 ≤ n) (h1 : n < 16) : 0 ≤ dg n ∧ dg n < 256 := by unfold dg; split <;> omega
theorem hexL_rng : ∀ (l : List Int), (∀ x ∈ l, 0 ≤ x ∧ x < 256) → ∀ y ∈ hexL l, 0 ≤ y ∧ y < 256
  | [], _, y, hy => by simp [hexL] at hy
  | b :: r, h, y, hy => by
    have hb := h b (List.mem_cons_self ..)
    simp only [hexL, List.mem_cons] at hy
    rcases hy with rfl | rfl | hy
    · exact dg_rng _ (by omega) (by omega)
    · exact dg_rng _ (by omega) (by omega)
    · exact hexL_rng r (fun x hx => h x (List.mem_cons_of_mem _ hx)) y hy
theorem bytes_rng (s : ByteArray) : ∀ x ∈ bytesOf s, 0 ≤ x ∧ x ≤ 255 := by
  intro x hx
  simp only [bytesOf, List.mem_map] at hx
  obtain ⟨b, _, rfl⟩ := hx
  have := b.toNat_lt
  omega
/-- The document's reading is the program's. -/
theorem rfromF (s : ByteArray) (hs : s.size ≤ 1000000) (k : Nat) (hk : 3 * s.size + 10 ≤ k) : rubrickref01_FromHex.f k s = some (match fh (bytesOf s) with | some l => (strOfNums l, true) | none => (⟨#[]⟩, false)) := by
  unfold rubrickref01_FromHex.f
  by_cases he : s.size % 2 = 0
  · rw [if_neg (by omega)]
    obtain ⟨H, hH⟩ : ∃ H, k = 4 * (s.size / 2) + 1 + H := ⟨k - (4 * (s.size / 2) + 1), by omega⟩
    have h := rfrom0 s (by omega) H (s.size / 2) (by omega) [] (by simp)
    rw [show s.size - 2 * (s.size / 2) = 0 by omega, ← hH] at h
    have hgl := gl_len _ (bytesOf s) (Nat.le_refl _)
    have hsz := bytesOf_length s
    simp only [List.nil_append, List.drop_zero] at h
    refine (show rubrickref01_FromHex.l0 k s [] 0 = _ from h).trans ?_
    rw [rhexF _ (by rw [strOfNums_size]; omega) H (by rw [strOfNums_size]; omega), bytes_str _ hgl.2]
    simp only [Option.bind_some]
    cases hf : fh (bytesOf s) with
    | some q =>
      obtain ⟨e1, e2⟩ := fh_some _ _ q (Nat.le_refl _) (bytes_rng s) hf
      rw [e1, e2, str_bytes, if_pos rfl]
    | none =>
      rw [if_neg]
      intro e
      have e3 := toList_inj e
      have e4 : hexL (gl (bytesOf s)) = bytesOf s := by
        rw [← bytes_str _ (hexL_rng _ hgl.2), e3]
      have e5 := fh_hex _ hgl.2
      rw [e4, hf] at e5
      cases e5
  · rw [if_pos (by omega)]
    have hf := fromF s (by omega) (s.size + 3) (Nat.le_refl _)
    unfold sha_FromHex.f at hf
    rw [if_neg (by omega)] at hf
    cases h : fh (bytesOf s) with
    | none => rfl
    | some q =>
      rw [h] at hf
      simp at hf
end Go.Proofs.YtjcfimnijpcjmaaDoor.PureX

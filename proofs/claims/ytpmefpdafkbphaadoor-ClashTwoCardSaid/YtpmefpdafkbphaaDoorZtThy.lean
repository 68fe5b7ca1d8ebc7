namespace Go.Proofs.YtpmefpdafkbphaaDoor.Thy
set_option linter.unusedVariables false
def sp (n : Nat) : Nat := 2 ^ Nat.log2 (n - 1)
theorem sp_pos (n : Nat) : 0 < sp n := Nat.pow_pos (by decide)
theorem sp_lt {n : Nat} (h : 2 ≤ n) : sp n < n := by
  (have := Nat.log2_self_le (n := n - 1) (by omega)); (unfold sp; omega)
theorem pow_uniq {h g n : Nat} (h1 : 2 ^ h ≤ n) (h2 : n < 2 ^ (h + 1)) (g1 : 2 ^ g ≤ n) (g2 : n < 2 ^ (g + 1)) : h = g := by
  rcases Nat.lt_trichotomy h g with l | l | l
  · have := Nat.pow_le_pow_right (n := 2) (by decide) (show h + 1 ≤ g from l); omega
  · exact l
  · have := Nat.pow_le_pow_right (n := 2) (by decide) (show g + 1 ≤ h from l); omega
theorem log2_uniq {h n : Nat} (h1 : 2 ^ h ≤ n) (h2 : n < 2 ^ (h + 1)) : Nat.log2 n = h := by
  (have h0 : n ≠ 0 := by have := Nat.pow_pos (a := 2) (n := h) (by decide); omega); exact pow_uniq (Nat.log2_self_le h0) Nat.lt_log2_self h1 h2
theorem sp_uniq {h n : Nat} (h1 : 2 ^ h < n) (h2 : n ≤ 2 * 2 ^ h) : sp n = 2 ^ h := by
  unfold sp; (rw [log2_uniq (h := h) (by omega) (by rw [Nat.pow_succ]; omega)])
variable {α : Type} (node : α → α → α) (e : α)
def root (l : List α) : α :=
  if h : l.length < 2 then l.headD e else node (root (l.take (sp l.length))) (root (l.drop (sp l.length)))
  termination_by l.length
  decreasing_by
    · have := sp_lt (n := l.length) (by omega); simp; omega
    · have := sp_pos l.length; simp; omega
theorem root_nil : root node e [] = e := by rw [root]; simp
theorem root_one (x : α) : root node e [x] = x := by rw [root]; simp
theorem root_two {l : List α} (h : 2 ≤ l.length) : root node e l = node (root node e (l.take (sp l.length))) (root node e (l.drop (sp l.length))) := by
  rw [root, dif_neg (by omega)]
def stk (l : List α) : List α :=
  if h : l = [] then [] else root node e (l.take (2 ^ Nat.log2 l.length)) :: stk (l.drop (2 ^ Nat.log2 l.length))
  termination_by l.length
  decreasing_by
    (have : 0 < 2 ^ Nat.log2 l.length := Nat.pow_pos (by decide)); have : 0 < l.length := List.length_pos_iff.mpr h; (simp; omega)
theorem stk_nil : stk node e ([] : List α) = [] := by rw [stk, dif_pos rfl]
theorem stk_cons {l : List α} (h : l ≠ []) : stk node e l = root node e (l.take (2 ^ Nat.log2 l.length)) :: stk node e (l.drop (2 ^ Nat.log2 l.length)) := by rw [stk, dif_neg h]
theorem stk_whole {l : List α} {t : Nat} (h : l.length = 2 ^ t) : stk node e l = [root node e l] := by
  (have h0 : 0 < 2 ^ t := Nat.pow_pos (by decide)); (rw [stk_cons node e (by intro hh; subst hh; simp at h; omega), h, Nat.log2_two_pow, ← h, List.take_length, List.drop_length, stk_nil])
theorem stk_app (t : Nat) (c : List α) (hc : c.length = 2 ^ t) : ∀ (n : Nat) (a : List α), a.length = n → 2 ^ (t + 1) ∣ n → stk node e (a ++ c) = stk node e a ++ [root node e c] := by
  intro n
  induction n using Nat.strongRecOn with
  | _ n ih =>
    intro a ha hd
    by_cases h : a = []
    · subst h; rw [List.nil_append, stk_nil, List.nil_append]; exact stk_whole node e hc
    · have hn : 0 < n := by rw [← ha]; exact List.length_pos_iff.mpr h
      (have k1 : 2 ^ Nat.log2 n ≤ n := Nat.log2_self_le (by omega)); have k2 : n < 2 ^ (Nat.log2 n + 1) := Nat.lt_log2_self; have k3 : 2 ^ (t + 1) ≤ n := Nat.le_of_dvd hn hd
      have k4 : t + 1 ≤ Nat.log2 n := by
        rcases Nat.lt_or_ge (Nat.log2 n) (t + 1) with l | l
        · have := Nat.pow_le_pow_right (n := 2) (by decide) (show Nat.log2 n + 1 ≤ t + 1 from l); omega
        · exact l
      have d1 : 2 ^ (t + 1) ∣ 2 ^ Nat.log2 n := Nat.pow_dvd_pow 2 k4; (have d2 : 2 ^ (t + 1) ∣ 2 ^ (Nat.log2 n + 1) := Nat.pow_dvd_pow 2 (by omega))
      have k5 : n + 2 ^ (t + 1) ≤ 2 ^ (Nat.log2 n + 1) := by
        obtain ⟨x, hx⟩ := hd; obtain ⟨y, hy⟩ := d2; (rw [hy] at k2 ⊢); (have k6 : 2 ^ (t + 1) * x < 2 ^ (t + 1) * y := by rw [← hx]; exact k2); have := Nat.mul_le_mul_left (2 ^ (t + 1)) (Nat.lt_of_mul_lt_mul_left k6); rw [Nat.mul_succ, ← hx] at this; exact this
      (have hp : 0 < 2 ^ t := Nat.pow_pos (by decide)); (have hp2 : 2 ^ (t + 1) = 2 * 2 ^ t := by rw [Nat.pow_succ]; omega); (have e1 : Nat.log2 (a ++ c).length = Nat.log2 n := log2_uniq (by simp; omega) (by simp; omega)); (have hk : 0 < 2 ^ Nat.log2 n := Nat.pow_pos (by decide)); (rw [stk_cons node e (by simp [h]), stk_cons node e h, e1, ha, List.take_append_of_le_length (by omega), List.drop_append_of_le_length (by omega), ih (n - 2 ^ Nat.log2 n) (by omega) _ (by simp; omega) (Nat.dvd_sub hd d1)]); rfl
def comb : List α → α
  | [] => e
  | [x] => x
  | x :: y :: r => node x (comb (y :: r))
theorem comb_cons (x : α) {r : List α} (h : r ≠ []) : comb node e (x :: r) = node x (comb node e r) := by
  cases r with
  | nil => exact absurd rfl h
  | cons y r => rfl
theorem comb_app (x y : α) : ∀ s : List α, comb node e (s ++ [x, y]) = comb node e (s ++ [node x y])
  | [] => rfl
  | z :: s => by
    rw [List.cons_append, List.cons_append, comb_cons node e z (by simp), comb_cons node e z (by simp), comb_app x y s]
theorem comb_stk : ∀ (n : Nat) (l : List α), l.length = n → 0 < n → comb node e (stk node e l) = root node e l := by
  intro n
  induction n using Nat.strongRecOn with
  | _ n ih =>
    intro l hl h0; (have hne : l ≠ [] := by intro h; subst h; simp at hl; omega); (have k1 : 2 ^ Nat.log2 n ≤ n := Nat.log2_self_le (by omega)); have k2 : n < 2 ^ (Nat.log2 n + 1) := Nat.lt_log2_self; (have k3 : 2 ^ (Nat.log2 n + 1) = 2 * 2 ^ Nat.log2 n := by rw [Nat.pow_succ]; omega); (have hk : 0 < 2 ^ Nat.log2 n := Nat.pow_pos (by decide))
    by_cases h : n = 2 ^ Nat.log2 n
    · rw [stk_whole node e (t := Nat.log2 n) (by omega)]; rfl
    · have hs : sp n = 2 ^ Nat.log2 n := sp_uniq (by omega) (by omega)
      (have hd : l.drop (2 ^ Nat.log2 n) ≠ [] := by intro hh; have := congrArg List.length hh; simp at this; omega); (have hq : stk node e (l.drop (2 ^ Nat.log2 n)) ≠ [] := by rw [stk_cons node e hd]; simp); (rw [stk_cons node e hne, hl, comb_cons node e _ hq, ih (n - 2 ^ Nat.log2 n) (by omega) _ (by simp; omega) (by omega), root_two node e (l := l) (by omega), hl, hs])
end Go.Proofs.YtpmefpdafkbphaaDoor.Thy

import Derived.Test.YtpmefpdafkbphaaDoorZaThy
namespace Go.Proofs.YtpmefpdafkbphaaDoor.Thy
set_option linter.unusedVariables false
theorem pow_succ2 (h : Nat) : 2 ^ (h + 1) = 2 * 2 ^ h := by rw [Nat.pow_succ]; omega
theorem pow_pos2 (h : Nat) : 0 < 2 ^ h := Nat.pow_pos (by decide)
/-- Both numbers shifted while the first one is even and not 0; while it is odd. -/
def s0 (a b : Nat) : Nat × Nat := if h : a ≠ 0 ∧ a % 2 = 0 then s0 (a / 2) (b / 2) else (a, b)
  termination_by a
  decreasing_by omega
def s1 (a b : Nat) : Nat × Nat := if h : a % 2 = 1 then s1 (a / 2) (b / 2) else (a, b)
  termination_by a
  decreasing_by omega
theorem s0_go {a : Nat} (b : Nat) (h : a ≠ 0) (h2 : a % 2 = 0) : s0 a b = s0 (a / 2) (b / 2) := by rw [s0, dif_pos ⟨h, h2⟩]
theorem s0_odd {a : Nat} (b : Nat) (h : a % 2 = 1) : s0 a b = (a, b) := by rw [s0, dif_neg (by omega)]
theorem s0_zero (b : Nat) : s0 0 b = (0, b) := by rw [s0, dif_neg (by omega)]
theorem s1_go {a : Nat} (b : Nat) (h : a % 2 = 1) : s1 a b = s1 (a / 2) (b / 2) := by rw [s1, dif_pos h]
theorem s1_even {a : Nat} (b : Nat) (h : a % 2 = 0) : s1 a b = (a, b) := by rw [s1, dif_neg (by omega)]
theorem s0_pow : ∀ h : Nat, s0 (2 ^ h) (2 ^ h) = (1, 1)
  | 0 => s0_odd _ rfl
  | h + 1 => by
    have := pow_pos2 h
    have := pow_succ2 h
    rw [s0_go _ (by omega) (by omega), show 2 ^ (h + 1) / 2 = 2 ^ h by omega]
    exact s0_pow h
theorem s0_high : ∀ (c h : Nat), 0 < c → c < 2 ^ h → ∃ g u, s0 c c = (u, u) ∧ s0 (c + 2 ^ h) (c + 2 ^ h) = (u + 2 ^ (g + 1), u + 2 ^ (g + 1)) ∧ u < 2 ^ (g + 1) ∧ u % 2 = 1 := by
  intro c
  induction c using Nat.strongRecOn with
  | _ c ih =>
    intro h h0 h1
    cases h with
    | zero => simp at h1; omega
    | succ h =>
      have h2 := pow_succ2 h
      by_cases hc : c % 2 = 0
      · obtain ⟨g, u, e1, e2, e3, e4⟩ := ih (c / 2) (by omega) h (by omega) (by omega)
        refine ⟨g, u, ?_, ?_, e3, e4⟩
        · rw [s0_go c (by omega) hc]; exact e1
        · rw [s0_go _ (by omega) (by omega), show (c + 2 ^ (h + 1)) / 2 = c / 2 + 2 ^ h by omega]; exact e2
      · exact ⟨h, c, s0_odd _ (by omega), s0_odd _ (by omega), h1, by omega⟩
theorem s1_ones : ∀ h : Nat, s1 (2 ^ h - 1) (2 ^ h - 1) = (0, 0)
  | 0 => s1_even _ rfl
  | h + 1 => by
    have := pow_pos2 h
    have := pow_succ2 h
    rw [s1_go _ (by omega), show (2 ^ (h + 1) - 1) / 2 = 2 ^ h - 1 by omega]
    exact s1_ones h
theorem s1_lt : ∀ a b : Nat, a < b → (s1 a b).1 < (s1 a b).2 := by
  intro a
  induction a using Nat.strongRecOn with
  | _ a ih =>
    intro b h
    by_cases ha : a % 2 = 1
    · rw [s1_go b ha]; exact ih _ (by omega) _ (by omega)
    · rw [s1_even b (by omega)]; exact h
theorem s1_left : ∀ a h b : Nat, a < 2 ^ h → 2 ^ h ≤ b → b < 2 ^ (h + 1) → ∃ g a' b', s1 a b = (a', b') ∧ s1 a (2 ^ h - 1) = (a', 2 ^ g - 1) ∧ a' < 2 ^ g ∧ 2 ^ g ≤ b' ∧ b' < 2 ^ (g + 1) := by
  intro a
  induction a using Nat.strongRecOn with
  | _ a ih =>
    intro h b h1 h2 h3
    by_cases ha : a % 2 = 1
    · cases h with
      | zero => simp at h1; omega
      | succ h =>
        have e1 := pow_succ2 h
        have e2 := pow_succ2 (h + 1)
        obtain ⟨g, a', b', p1, p2, p3⟩ := ih (a / 2) (by omega) h (b / 2) (by omega) (by omega) (by omega)
        refine ⟨g, a', b', ?_, ?_, p3⟩
        · rw [s1_go b ha]; exact p1
        · rw [s1_go _ ha, show (2 ^ (h + 1) - 1) / 2 = 2 ^ h - 1 by omega]; exact p2
    · exact ⟨h, a, b, s1_even _ (by omega), s1_even _ (by omega), h1, h2, h3⟩
theorem s1_right : ∀ a h b : Nat, 2 ^ h ≤ a → a < b → b < 2 ^ (h + 1) → ∃ g a' b', s1 a b = (a', b') ∧ s1 (a - 2 ^ h) (b - 2 ^ h) = (a' - 2 ^ g, b' - 2 ^ g) ∧ 2 ^ g ≤ a' ∧ a' < b' ∧ b' < 2 ^ (g + 1) := by
  intro a
  induction a using Nat.strongRecOn with
  | _ a ih =>
    intro h b h1 h2 h3
    cases h with
    | zero => simp at h1 h3; omega
    | succ h =>
      have e1 := pow_succ2 h
      have e2 := pow_succ2 (h + 1)
      have e3 := pow_pos2 h
      by_cases ha : a % 2 = 1
      · obtain ⟨g, a', b', p1, p2, p3⟩ := ih (a / 2) (by omega) h (b / 2) (by omega) (by omega) (by omega)
        refine ⟨g, a', b', ?_, ?_, p3⟩
        · rw [s1_go b ha]; exact p1
        · rw [s1_go _ (by omega), show (a - 2 ^ (h + 1)) / 2 = a / 2 - 2 ^ h by omega, show (b - 2 ^ (h + 1)) / 2 = b / 2 - 2 ^ h by omega]; exact p2
      · exact ⟨h + 1, a, b, s1_even _ (by omega), s1_even _ (by omega), h1, h2, h3⟩
variable {α : Type} (node : α → α → α) (e : α)
/-- The roots that the division of a list tells. -/
def roots (m n : Nat) (whole : Bool) (one : α) (p : List α) : α × α × Bool :=
  if m = n then (if whole then (one, one, p.isEmpty) else if p.length = 1 then (p.headD e, p.headD e, true) else (e, e, false))
  else if p = [] then (e, e, false)
  else if h : n < 2 then (e, e, false)
  else if m ≤ sp n then ((roots m (sp n) whole one p.dropLast).1, node (roots m (sp n) whole one p.dropLast).2.1 (p.getLastD e), (roots m (sp n) whole one p.dropLast).2.2)
  else (node (p.getLastD e) (roots (m - sp n) (n - sp n) false one p.dropLast).1, node (p.getLastD e) (roots (m - sp n) (n - sp n) false one p.dropLast).2.1, (roots (m - sp n) (n - sp n) false one p.dropLast).2.2)
  termination_by n
  decreasing_by
    all_goals first | exact sp_lt (by omega) | (have := sp_pos n; omega)
theorem roots_same (n : Nat) (whole : Bool) (one : α) (p : List α) : roots node e n n whole one p = if whole then (one, one, p.isEmpty) else if p.length = 1 then (p.headD e, p.headD e, true) else (e, e, false) := by rw [roots, if_pos rfl]
theorem roots_nil {m n : Nat} (h : m ≠ n) (whole : Bool) (one : α) : roots node e m n whole one [] = (e, e, false) := by rw [roots, if_neg h, if_pos rfl]
theorem roots_nil_ok (m n : Nat) (one : α) : (roots node e m n false one []).2.2 = false := by
  by_cases h : m = n
  · subst h; rw [roots_same]; rfl
  · rw [roots_nil node e h]
theorem roots_left {m n : Nat} (h : m ≠ n) (h2 : 2 ≤ n) (hm : m ≤ sp n) (whole : Bool) (one : α) (p : List α) (d : α) :
    roots node e m n whole one (p ++ [d]) = ((roots node e m (sp n) whole one p).1, node (roots node e m (sp n) whole one p).2.1 d, (roots node e m (sp n) whole one p).2.2) := by
  rw [roots, if_neg h, if_neg (by simp), dif_neg (by omega), if_pos hm]; simp
theorem roots_right {m n : Nat} (h : m ≠ n) (h2 : 2 ≤ n) (hm : ¬ m ≤ sp n) (whole : Bool) (one : α) (p : List α) (d : α) :
    roots node e m n whole one (p ++ [d]) = (node d (roots node e (m - sp n) (n - sp n) false one p).1, node d (roots node e (m - sp n) (n - sp n) false one p).2.1, (roots node e (m - sp n) (n - sp n) false one p).2.2) := by
  rw [roots, if_neg h, if_neg (by simp), dif_neg (by omega), if_neg hm]; simp
/-- The climb by bits. -/
def run (a b : Nat) (x y : α) : List α → α × α × Bool
  | [] => (x, y, b == 0)
  | d :: p => if b = 0 then (e, e, false) else if a % 2 = 1 ∨ a = b then run ((s0 a b).1 / 2) ((s0 a b).2 / 2) (node d x) (node d y) p else run (a / 2) (b / 2) x (node y d) p
theorem run_up {a b : Nat} (hb : b ≠ 0) (h : a % 2 = 1 ∨ a = b) (x y d : α) (p : List α) : run node e a b x y (d :: p) = run node e ((s0 a b).1 / 2) ((s0 a b).2 / 2) (node d x) (node d y) p := by rw [run, if_neg hb, if_pos h]
theorem run_on {a b : Nat} (hb : b ≠ 0) (h : ¬ (a % 2 = 1 ∨ a = b)) (x y d : α) (p : List α) : run node e a b x y (d :: p) = run node e (a / 2) (b / 2) x (node y d) p := by rw [run, if_neg hb, if_neg h]
theorem run_not (a : Nat) (x y d : α) (p : List α) : run node e a 0 x y (d :: p) = (e, e, false) := by rw [run, if_pos rfl]
def Eqv (r q : α × α × Bool) : Prop := q.2.2 = r.2.2 ∧ (r.2.2 = true → q.1 = r.1 ∧ q.2.1 = r.2.1)
theorem Eqv.trans {r q s : α × α × Bool} (h : Eqv r q) (g : Eqv q s) : Eqv r s :=
  ⟨g.1.trans h.1, fun hr => ⟨(g.2 (h.1.trans hr)).1.trans (h.2 hr).1, (g.2 (h.1.trans hr)).2.trans (h.2 hr).2⟩⟩
theorem Eqv.no {r q : α × α × Bool} (h : r.2.2 = false) (g : q.2.2 = false) : Eqv r q := ⟨g.trans h.symm, fun hr => by rw [h] at hr; cases hr⟩
def upL (d : α) (r : α × α × Bool) : α × α × Bool := (r.1, node r.2.1 d, r.2.2)
def upR (d : α) (r : α × α × Bool) : α × α × Bool := (node d r.1, node d r.2.1, r.2.2)
theorem Eqv.upL {r q : α × α × Bool} (h : Eqv r q) (d : α) : Eqv (upL node d r) (upL node d q) := ⟨h.1, fun hr => ⟨(h.2 hr).1, by unfold Thy.upL; rw [(h.2 hr).2]⟩⟩
theorem Eqv.upR {r q : α × α × Bool} (h : Eqv r q) (d : α) : Eqv (upR node d r) (upR node d q) := ⟨h.1, fun hr => ⟨by unfold Thy.upR; rw [(h.2 hr).1], by unfold Thy.upR; rw [(h.2 hr).2]⟩⟩
theorem run_nil_ok {a b : Nat} (h : b ≠ 0) (x y : α) : (run node e a b x y []).2.2 = false := by simp [run, h]
theorem run_zero_ok (a : Nat) (x y : α) (p : List α) (d : α) : (run node e a 0 x y (p ++ [d])).2.2 = false := by cases p <;> simp [run]
theorem run_left (d : α) : ∀ (p : List α) (h a b : Nat) (x y : α), a < 2 ^ h → 2 ^ h ≤ b → b < 2 ^ (h + 1) → Eqv (upL node d (run node e a (2 ^ h - 1) x y p)) (run node e a b x y (p ++ [d]))
  | [], 0, a, b, x, y, h1, h2, h3 => by
    obtain rfl : a = 0 := by simp at h1; omega
    obtain rfl : b = 1 := by simp at h2 h3; omega
    exact ⟨rfl, fun _ => ⟨rfl, rfl⟩⟩
  | [], h + 1, a, b, x, y, h1, h2, h3 => by
    have e1 := pow_succ2 h
    have e2 := pow_pos2 h
    refine Eqv.no (by simp only [upL]; exact run_nil_ok node e (by omega) x y) ?_
    rw [List.nil_append]
    by_cases hh : a % 2 = 1
    · rw [run_up node e (by omega) (.inl hh), s0_odd b hh]
      exact run_nil_ok node e (by simp only; omega) _ _
    · rw [run_on node e (by omega) (by omega)]
      exact run_nil_ok node e (by omega) _ _
  | c :: p, 0, a, b, x, y, h1, h2, h3 => by
    obtain rfl : a = 0 := by simp at h1; omega
    obtain rfl : b = 1 := by simp at h2 h3; omega
    refine Eqv.no (by simp [upL, run]) ?_
    rw [List.cons_append, run_on node e (by omega) (by omega)]
    exact run_zero_ok node e _ _ _ _ _
  | c :: p, h + 1, a, b, x, y, h1, h2, h3 => by
    have e1 := pow_succ2 h
    have e2 := pow_pos2 h
    have e3 := pow_succ2 (h + 1)
    rw [List.cons_append]
    by_cases ha : a % 2 = 1
    · rw [run_up node e (b := b) (by omega) (.inl ha), run_up node e (b := 2 ^ (h + 1) - 1) (by omega) (.inl ha), s0_odd b ha, s0_odd _ ha, show (2 ^ (h + 1) - 1) / 2 = 2 ^ h - 1 by omega]
      exact run_left d p h (a / 2) (b / 2) _ _ (by omega) (by omega) (by omega)
    · rw [run_on node e (b := b) (by omega) (by omega), run_on node e (b := 2 ^ (h + 1) - 1) (by omega) (by omega), show (2 ^ (h + 1) - 1) / 2 = 2 ^ h - 1 by omega]
      exact run_left d p h (a / 2) (b / 2) _ _ (by omega) (by omega) (by omega)
theorem run_equal (d : α) : ∀ (p : List α) (h c : Nat) (x y : α), c < 2 ^ h → Eqv (upR node d (run node e c c x y p)) (run node e (c + 2 ^ h) (c + 2 ^ h) x y (p ++ [d])) := by
  intro p
  induction p with
  | nil =>
    intro h c x y h1
    have e2 := pow_pos2 h
    rw [List.nil_append, run_up node e (by omega) (.inr rfl), run]
    by_cases hc : c = 0
    · subst hc
      rw [Nat.zero_add, s0_pow]
      exact ⟨rfl, fun _ => ⟨rfl, rfl⟩⟩
    · obtain ⟨g, u, q1, q2, q3, q4⟩ := s0_high c h (by omega) h1
      have e3 := pow_succ2 g
      have e4 := pow_pos2 g
      rw [q2]
      exact Eqv.no (by simp [upR, hc]) (run_nil_ok node e (by simp only; omega) _ _)
  | cons b p ih =>
    intro h c x y h1
    have e2 := pow_pos2 h
    by_cases hc : c = 0
    · subst hc
      rw [Nat.zero_add]
      refine Eqv.no (by simp [upR, run]) ?_
      rw [List.cons_append, run_up node e (by omega) (.inr rfl), s0_pow]
      exact run_zero_ok node e _ _ _ _ _
    · obtain ⟨g, u, q1, q2, q3, q4⟩ := s0_high c h (by omega) h1
      have e3 := pow_succ2 g
      rw [List.cons_append, run_up node e (b := c + 2 ^ h) (by omega) (.inr rfl), q2, run_up node e (b := c) hc (.inr rfl), q1]
      simp only
      rw [show (u + 2 ^ (g + 1)) / 2 = u / 2 + 2 ^ g by omega]
      exact ih g (u / 2) _ _ (by omega)
theorem run_right (d : α) : ∀ (p : List α) (h a b : Nat) (x y : α), 2 ^ h ≤ a → a < b → b < 2 ^ (h + 1) → Eqv (upR node d (run node e (a - 2 ^ h) (b - 2 ^ h) x y p)) (run node e a b x y (p ++ [d]))
  | _, 0, a, b, x, y, h1, h2, h3 => by simp at h1 h3; omega
  | [], h + 1, a, b, x, y, h1, h2, h3 => by
    have e1 := pow_succ2 h
    have e2 := pow_pos2 h
    refine Eqv.no (by simp only [upR]; exact run_nil_ok node e (by omega) x y) ?_
    rw [List.nil_append]
    by_cases hh : a % 2 = 1
    · rw [run_up node e (by omega) (.inl hh), s0_odd b hh]
      exact run_nil_ok node e (by simp only; omega) _ _
    · rw [run_on node e (by omega) (by omega)]
      exact run_nil_ok node e (by omega) _ _
  | c :: p, h + 1, a, b, x, y, h1, h2, h3 => by
    have e1 := pow_succ2 h
    have e2 := pow_pos2 h
    have e3 := pow_succ2 (h + 1)
    rw [List.cons_append]
    by_cases ha : a % 2 = 1
    · rw [run_up node e (b := b) (by omega) (.inl ha), run_up node e (b := b - 2 ^ (h + 1)) (by omega) (.inl (by omega)), s0_odd b ha, s0_odd _ (by omega)]
      simp only
      rw [show (a - 2 ^ (h + 1)) / 2 = a / 2 - 2 ^ h by omega, show (b - 2 ^ (h + 1)) / 2 = b / 2 - 2 ^ h by omega]
      exact run_right d p h (a / 2) (b / 2) _ _ (by omega) (by omega) (by omega)
    · rw [run_on node e (b := b) (by omega) (by omega), run_on node e (b := b - 2 ^ (h + 1)) (by omega) (by omega), show (a - 2 ^ (h + 1)) / 2 = a / 2 - 2 ^ h by omega, show (b - 2 ^ (h + 1)) / 2 = b / 2 - 2 ^ h by omega]
      by_cases hab : a / 2 = b / 2
      · have := run_equal node e d p h (a / 2 - 2 ^ h) x (node y c) (by omega)
        rw [show a / 2 - 2 ^ h + 2 ^ h = a / 2 by omega] at this
        rw [← hab]
        exact this
      · exact run_right d p h (a / 2) (b / 2) _ _ (by omega) (by omega) (by omega)
/-- The climb from a first digest. -/
def climbS (m n : Nat) (x : α) (p : List α) : α × α × Bool := run node e (s1 (m - 1) (n - 1)).1 (s1 (m - 1) (n - 1)).2 x x p
theorem climbS_left {m n : Nat} (h1 : 1 ≤ m) (h2 : m < n) (hm : m ≤ sp n) (x : α) (p : List α) (d : α) : Eqv (upL node d (climbS node e m (sp n) x p)) (climbS node e m n x (p ++ [d])) := by
  have k1 : 2 ^ Nat.log2 (n - 1) ≤ n - 1 := Nat.log2_self_le (by omega)
  have k2 : n - 1 < 2 ^ (Nat.log2 (n - 1) + 1) := Nat.lt_log2_self
  unfold sp at hm
  obtain ⟨g, a', b', p1, p2, p3, p4, p5⟩ := s1_left (m - 1) _ (n - 1) (by omega) k1 k2
  unfold climbS
  rw [p1, show sp n = 2 ^ Nat.log2 (n - 1) from rfl, p2]
  exact run_left node e d p g a' b' x x p3 p4 p5
theorem climbS_right {m n : Nat} (h2 : m < n) (hm : ¬ m ≤ sp n) (x : α) (p : List α) (d : α) : Eqv (upR node d (climbS node e (m - sp n) (n - sp n) x p)) (climbS node e m n x (p ++ [d])) := by
  have k1 : 2 ^ Nat.log2 (n - 1) ≤ n - 1 := Nat.log2_self_le (by omega)
  have k2 : n - 1 < 2 ^ (Nat.log2 (n - 1) + 1) := Nat.lt_log2_self
  unfold sp at hm
  obtain ⟨g, a', b', p1, p2, p3, p4, p5⟩ := s1_right (m - 1) (Nat.log2 (n - 1)) (n - 1) (by omega) (by omega) k2
  unfold climbS
  rw [p1, show sp n = 2 ^ Nat.log2 (n - 1) from rfl, show m - 2 ^ Nat.log2 (n - 1) - 1 = m - 1 - 2 ^ Nat.log2 (n - 1) by omega, show n - 2 ^ Nat.log2 (n - 1) - 1 = n - 1 - 2 ^ Nat.log2 (n - 1) by omega, p2]
  exact run_right node e d p g a' b' x x p3 p4 p5
theorem climbS_nil_ok {m n : Nat} (h1 : 1 ≤ m) (h2 : m < n) (x : α) : (climbS node e m n x []).2.2 = false := by
  have := s1_lt (m - 1) (n - 1) (by omega)
  exact run_nil_ok node e (by omega) _ _
theorem climbS_pow (h : Nat) (x : α) (p : List α) : climbS node e (2 ^ h) (2 ^ h) x p = if p = [] then (x, x, true) else (e, e, false) := by
  unfold climbS
  rw [s1_ones]
  cases p with
  | nil => rfl
  | cons d p => simp [run]
theorem snoc_of {p : List α} (h : p ≠ []) : ∃ q d, p = q ++ [d] := ⟨p.dropLast, p.getLast h, (List.dropLast_concat_getLast h).symm⟩
theorem climb_roots (one x : α) : ∀ (n m : Nat) (p : List α), 1 ≤ m → (m < n ∨ m = n ∧ ∃ h, n = 2 ^ h) → Eqv (roots node e m n false one (x :: p)) (climbS node e m n x p) := by
  intro n
  induction n using Nat.strongRecOn with
  | _ n ih =>
    intro m p h1 h2
    rcases h2 with h2 | ⟨rfl, h, rfl⟩
    · by_cases hp : p = []
      · subst hp
        refine Eqv.no ?_ (climbS_nil_ok node e h1 h2 x)
        have : [x] = ([] : List α) ++ [x] := rfl
        rw [this]
        by_cases hm : m ≤ sp n
        · rw [roots_left node e (by omega) (by omega) hm]; exact roots_nil_ok node e _ _ _
        · rw [roots_right node e (by omega) (by omega) hm]; exact roots_nil_ok node e _ _ _
      · obtain ⟨q, d, rfl⟩ := snoc_of hp
        rw [← List.cons_append]
        have k1 := sp_lt (n := n) (by omega)
        by_cases hm : m ≤ sp n
        · rw [roots_left node e (by omega) (by omega) hm]
          refine Eqv.trans (Eqv.upL node (ih (sp n) k1 m q h1 ?_) d) (climbS_left node e h1 h2 hm x q d)
          rcases Nat.lt_or_ge m (sp n) with hlt | hge
          · exact .inl hlt
          · exact .inr ⟨by omega, _, rfl⟩
        · rw [roots_right node e (by omega) (by omega) hm]
          have := sp_pos n
          exact Eqv.trans (Eqv.upR node (ih (n - sp n) (by omega) (m - sp n) q (by omega) (.inl (by omega))) d) (climbS_right node e h2 hm x q d)
    · rw [climbS_pow, roots_same]
      cases p with
      | nil => exact ⟨rfl, fun _ => ⟨rfl, rfl⟩⟩
      | cons d p => simp [Eqv]
theorem climb_whole (one : α) (g : Nat) : ∀ (n : Nat) (p : List α), (2 ^ g < n ∨ n = 2 ^ g) → Eqv (roots node e (2 ^ g) n true one p) (climbS node e (2 ^ g) n one p) := by
  intro n
  induction n using Nat.strongRecOn with
  | _ n ih =>
    intro p h2
    have g0 := pow_pos2 g
    rcases h2 with h2 | rfl
    · by_cases hp : p = []
      · subst hp
        exact Eqv.no (by rw [roots_nil node e (by omega)]) (climbS_nil_ok node e (by omega) h2 one)
      · obtain ⟨q, d, rfl⟩ := snoc_of hp
        have k1 := sp_lt (n := n) (by omega)
        have hm : 2 ^ g ≤ sp n := by
          unfold sp
          refine Nat.pow_le_pow_right (by decide) ?_
          rcases Nat.lt_or_ge (Nat.log2 (n - 1)) g with l | l
          · have := Nat.pow_le_pow_right (n := 2) (by decide) (show Nat.log2 (n - 1) + 1 ≤ g from l)
            have := @Nat.lt_log2_self (n - 1)
            omega
          · exact l
        rw [roots_left node e (by omega) (by omega) hm]
        refine Eqv.trans (Eqv.upL node (ih (sp n) k1 q ?_) d) (climbS_left node e g0 h2 hm one q d)
        omega
    · rw [climbS_pow, roots_same]
      cases p with
      | nil => exact ⟨rfl, fun _ => ⟨rfl, rfl⟩⟩
      | cons d p => simp [Eqv]
theorem roots_np (one : α) {m : Nat} (hm : ∀ g, m ≠ 2 ^ g) : ∀ (n : Nat) (p : List α), m < n → 1 ≤ m → roots node e m n true one p = roots node e m n false one p := by
  intro n
  induction n using Nat.strongRecOn with
  | _ n ih =>
    intro p h2 h1
    by_cases hp : p = []
    · subst hp; rw [roots_nil node e (by omega), roots_nil node e (by omega)]
    · obtain ⟨q, d, rfl⟩ := snoc_of hp
      have k1 := sp_lt (n := n) (by omega)
      by_cases hk : m ≤ sp n
      · have : m ≠ sp n := hm _
        rw [roots_left node e (by omega) (by omega) hk, roots_left node e (by omega) (by omega) hk, ih (sp n) k1 q (by omega) h1]
      · rw [roots_right node e (by omega) (by omega) hk, roots_right node e (by omega) (by omega) hk]
end Go.Proofs.YtpmefpdafkbphaaDoor.Thy

import Derived.Test.YtgcfhgkhokljcaaZcPurePost3
namespace Go.Proofs.Ytgcfhgkhokljcaa.PurePost
open Go.RowKit Go.Proofs.Ytgcfhgkhokljcaa.PA Go.Proofs.Ytgcfhgkhokljcaa.Evl Go.Proofs.YtgcfhgkhokljcaaW.PrintWords Go.Proofs.YtgcfhgkhokljcaaW.PrintLast Go.Proofs.YtgcfhgkhokljcaaW.PrintMore
set_option linter.unusedVariables false
/-- Two ordered lists joined: what stays is told by which of the two it lies in. -/
def mrg (op : Bool → Bool → Bool) : List Int → List Int → List Int
  | [], [] => []
  | x :: a, [] => (if op true false = true then [x] else []) ++ mrg op a []
  | [], y :: b => (if op false true = true then [y] else []) ++ mrg op [] b
  | x :: a, y :: b => if x < y then (if op true false = true then [x] else []) ++ mrg op a (y :: b) else if y < x then (if op false true = true then [y] else []) ++ mrg op (x :: a) b else (if op true true = true then [y] else []) ++ mrg op a b
  termination_by a b => a.length + b.length
section
variable {op : Bool → Bool → Bool} {opf : Bool → Bool → Option Bool}
  {l0 : Nat → List Int → List Int → List Int → Option (List Int)} {j1 j2 : Nat → List Int → List Int → List Int → Bool → Option (List Int)}
  {j3 : Nat → List Int → List Int → List Int → Bool → Bool → Option (List Int)} {j4 : Nat → List Int → List Int → List Int → Bool → Bool → Int → Option (List Int)}
theorem join_gen (hop : ∀ a b, opf a b = some (op a b))
    (e0 : ∀ k x0 x1 x7, l0 (k + 1) x0 x1 x7 = if (x0.length : Int) > 0 then (j1 k x0 x1 x7 true) else (j1 k x0 x1 x7 (decide ((x1.length : Int) > 0))))
    (e1 : ∀ k x0 x1 x7 x22, j1 (k + 1) x0 x1 x7 x22 = if x22 = true then (if (x0.length : Int) > 0 then (if (x1.length : Int) = 0 then (j2 k x0 x1 x7 true) else (if 0 < (x0.length : Int) then (if 0 < (x1.length : Int) then (j2 k x0 x1 x7 (decide ((rd x0 0) ≤ (rd x1 0)))) else (none)) else (none))) else (j2 k x0 x1 x7 false)) else (some x7))
    (e2 : ∀ k x0 x1 x7 x8, j2 (k + 1) x0 x1 x7 x8 = if (x1.length : Int) > 0 then (if (x0.length : Int) = 0 then (j3 k x0 x1 x7 x8 true) else (if 0 < (x1.length : Int) then (if 0 < (x0.length : Int) then (j3 k x0 x1 x7 x8 (decide ((rd x1 0) ≤ (rd x0 0)))) else (none)) else (none))) else (j3 k x0 x1 x7 x8 false))
    (e3 : ∀ k x0 x1 x7 x8 x9, j3 (k + 1) x0 x1 x7 x8 x9 = if x8 = true then (if 0 < (x0.length : Int) then (if 1 ≤ (x0.length : Int) then (j4 k (x0.drop 1) x1 x7 x8 x9 (rd x0 0)) else (none)) else (none)) else (j4 k x0 x1 x7 x8 x9 0))
    (e4 : ∀ k x0 x1 x7 x8 x9 x10, j4 (k + 1) x0 x1 x7 x8 x9 x10 = if x9 = true then (if 0 < (x1.length : Int) then (if 1 ≤ (x1.length : Int) then ((some (x1.drop 1 : List Int)).bind fun y215 => ((opf x8 x9).bind fun t220 => (if t220 = true then (if x7.length < 17592186044416 then (l0 k x0 y215 (x7 ++ [rd x1 0])) else (none)) else (l0 k x0 y215 x7)))) else (none)) else (none)) else ((opf x8 x9).bind fun t224 => (if t224 = true then (if x7.length < 17592186044416 then (l0 k x0 x1 (x7 ++ [x10])) else (none)) else (l0 k x0 x1 x7)))) :
    ∀ (n : Nat) (a b acc : List Int), a.length + b.length ≤ n → acc.length + n ≤ 1000000000 → Evl (fun k => l0 k a b acc) (acc ++ mrg op a b) := by
  have s4t : ∀ (x0 : List Int) (y : Int) (b acc : List Int) (x8 : Bool) (v : Int) (r : List Int), acc.length ≤ 1000000000 → Evl (fun k => l0 k x0 b (acc ++ if op x8 true = true then [y] else [])) r → Evl (fun k => j4 k x0 (y :: b) acc x8 true v) r := by
    intro x0 y b acc x8 v r ha h
    refine Evl.step (fun _ => e4 ..) (Evl.pos rfl (Evl.pos (by simp only [List.length_cons]; omega) (Evl.pos (by simp only [List.length_cons]; omega) (Evl.some_bind ?_))))
    rw [hop]
    refine Evl.some_bind ?_
    by_cases ho : op x8 true = true
    · rw [if_pos ho] at h; exact Evl.pos ho (Evl.pos (by omega) h)
    · rw [if_neg ho, List.append_nil] at h; exact Evl.neg ho h
  have s4f : ∀ (x0 b acc : List Int) (x8 : Bool) (v : Int) (r : List Int), acc.length ≤ 1000000000 → Evl (fun k => l0 k x0 b (acc ++ if op x8 false = true then [v] else [])) r → Evl (fun k => j4 k x0 b acc x8 false v) r := by
    intro x0 b acc x8 v r ha h
    refine Evl.step (fun _ => e4 ..) (Evl.neg (by decide) ?_)
    rw [hop]
    refine Evl.some_bind ?_
    by_cases ho : op x8 false = true
    · rw [if_pos ho] at h; exact Evl.pos ho (Evl.pos (by omega) h)
    · rw [if_neg ho, List.append_nil] at h; exact Evl.neg ho h
  have s3t : ∀ (x : Int) (a b acc : List Int) (x9 : Bool) (r : List Int), Evl (fun k => j4 k a b acc true x9 x) r → Evl (fun k => j3 k (x :: a) b acc true x9) r := by
    intro x a b acc x9 r h
    exact Evl.step (fun _ => e3 ..) (Evl.pos rfl (Evl.pos (by simp only [List.length_cons]; omega) (Evl.pos (by simp only [List.length_cons]; omega) h)))
  have s3f : ∀ (x0 b acc : List Int) (x9 : Bool) (r : List Int), Evl (fun k => j4 k x0 b acc false x9 0) r → Evl (fun k => j3 k x0 b acc false x9) r := by
    intro x0 b acc x9 r h
    exact Evl.step (fun _ => e3 ..) (Evl.neg (by decide) h)
  have len1 : ∀ (c : Prop) [Decidable c] (x : Int), (if c then [x] else [] : List Int).length ≤ 1 := by
    intro c _ x
    split <;> simp
  intro n
  induction n with
  | zero =>
    intro a b acc hn ha
    have h1 : a = [] := List.eq_nil_of_length_eq_zero (by omega)
    have h2 : b = [] := List.eq_nil_of_length_eq_zero (by omega)
    subst h1 h2
    refine Evl.step (fun _ => e0 ..) (Evl.neg (by simp) (Evl.step (fun _ => e1 ..) (Evl.neg (by simp) (Evl.ret' ?_))))
    rw [mrg, List.append_nil]
  | succ n ih =>
    intro a b acc hn ha
    cases a with
    | nil =>
      cases b with
      | nil =>
        refine Evl.step (fun _ => e0 ..) (Evl.neg (by simp) (Evl.step (fun _ => e1 ..) (Evl.neg (by simp) (Evl.ret' ?_))))
        rw [mrg, List.append_nil]
      | cons y b =>
        simp only [List.length_nil, List.length_cons] at hn
        have hq := len1 (op false true = true) y
        refine Evl.step (fun _ => e0 ..) (Evl.neg (by simp) ?_)
        rw [decide_eq_true (show ((y :: b).length : Int) > 0 by simp only [List.length_cons]; omega)]
        refine Evl.step (fun _ => e1 ..) (Evl.pos rfl (Evl.neg (by simp) (Evl.step (fun _ => e2 ..) (Evl.pos (by simp only [List.length_cons]; omega) (Evl.pos (by simp) (s3f _ _ _ _ _ (s4t _ _ _ _ _ _ _ (by omega) ?_)))))))
        refine (ih [] b _ (by simp; omega) (by rw [List.length_append]; omega)).cast ?_
        rw [mrg, List.append_assoc]
    | cons x a =>
      cases b with
      | nil =>
        simp only [List.length_nil, List.length_cons] at hn
        have hq := len1 (op true false = true) x
        refine Evl.step (fun _ => e0 ..) (Evl.pos (by simp only [List.length_cons]; omega) (Evl.step (fun _ => e1 ..) (Evl.pos rfl (Evl.pos (by simp only [List.length_cons]; omega) (Evl.pos (by simp) (Evl.step (fun _ => e2 ..) (Evl.neg (by simp) (s3t _ _ _ _ _ _ (s4f _ _ _ _ _ _ (by omega) ?_)))))))))
        refine (ih a [] _ (by simp; omega) (by rw [List.length_append]; omega)).cast ?_
        rw [mrg, List.append_assoc]
      | cons y b =>
        simp only [List.length_cons] at hn
        refine Evl.step (fun _ => e0 ..) (Evl.pos (by simp only [List.length_cons]; omega) (Evl.step (fun _ => e1 ..) (Evl.pos rfl (Evl.pos (by simp only [List.length_cons]; omega) (Evl.neg (by simp only [List.length_cons]; omega) (Evl.pos (by simp only [List.length_cons]; omega) (Evl.pos (by simp only [List.length_cons]; omega) (Evl.step (fun _ => e2 ..) (Evl.pos (by simp only [List.length_cons]; omega) (Evl.neg (by simp only [List.length_cons]; omega) (Evl.pos (by simp only [List.length_cons]; omega) (Evl.pos (by simp only [List.length_cons]; omega) ?_))))))))))))
        rw [show rd (x :: a) 0 = x from rfl, show rd (y :: b) 0 = y from rfl]
        rw [mrg]
        by_cases h1 : x < y
        · have hq := len1 (op true false = true) x
          rw [if_pos h1, decide_eq_true (show x ≤ y by omega), decide_eq_false (show ¬ y ≤ x by omega)]
          refine s3t _ _ _ _ _ _ (s4f _ _ _ _ _ _ (by omega) ?_)
          refine (ih a (y :: b) _ (by simp only [List.length_cons]; omega) (by rw [List.length_append]; omega)).cast ?_
          rw [List.append_assoc]
        · rw [if_neg h1]
          by_cases h2 : y < x
          · have hq := len1 (op false true = true) y
            rw [if_pos h2, decide_eq_true (show y ≤ x by omega), decide_eq_false (show ¬ x ≤ y by omega)]
            refine s3f _ _ _ _ _ (s4t _ _ _ _ _ _ _ (by omega) ?_)
            refine (ih (x :: a) b _ (by simp only [List.length_cons]; omega) (by rw [List.length_append]; omega)).cast ?_
            rw [List.append_assoc]
          · have hq := len1 (op true true = true) y
            rw [if_neg h2, decide_eq_true (show y ≤ x by omega), decide_eq_true (show x ≤ y by omega)]
            refine s3t _ _ _ _ _ _ (s4t _ _ _ _ _ _ _ (by omega) ?_)
            refine (ih a b _ (by omega) (by rw [List.length_append]; omega)).cast ?_
            rw [List.append_assoc]
end
theorem right_mem : ∀ (l : List Int) (last z : Int), rightFrom last l = true → z ∈ l → last < z ∧ z < 1000
  | [], _, _, _, h => by cases h
  | x :: r, last, z, hr, h => by
    rw [rightFrom] at hr
    split at hr
    · cases hr
    split at hr
    · cases hr
    rcases List.mem_cons.1 h with rfl | h
    · omega
    · have := right_mem r x z hr h
      omega
theorem right_up : ∀ (l : List Int) (last m : Int), rightFrom last l = true → m ≤ last → rightFrom m l = true
  | [], _, _, _, _ => rfl
  | x :: r, last, m, hr, h => by
    rw [rightFrom] at hr ⊢
    split at hr
    · cases hr
    split at hr
    · cases hr
    rw [if_neg (by omega), if_neg (by omega)]
    exact hr
theorem right_cons {x : Int} {r : List Int} {last : Int} (h : rightFrom last (x :: r) = true) : last < x ∧ x < 1000 ∧ rightFrom x r = true := by
  rw [rightFrom] at h
  split at h
  · cases h
  split at h
  · cases h
  exact ⟨by omega, by omega, h⟩
theorem right_of {x : Int} {r : List Int} {last : Int} (h1 : last < x) (h2 : x < 1000) (h : rightFrom x r = true) : rightFrom last (x :: r) = true := by
  rw [rightFrom, if_neg (by omega), if_neg (by omega)]
  exact h
theorem right_ext : ∀ (a b : List Int) (last : Int), rightFrom last a = true → rightFrom last b = true → (∀ z, z ∈ a ↔ z ∈ b) → a = b
  | [], [], _, _, _, _ => rfl
  | [], y :: b, _, _, _, h => by have := (h y).2 (by simp); cases this
  | x :: a, [], _, _, _, h => by have := (h x).1 (by simp); cases this
  | x :: a, y :: b, last, ha, hb, h => by
    obtain ⟨a1, a2, a3⟩ := right_cons ha
    obtain ⟨b1, b2, b3⟩ := right_cons hb
    have hx := (h x).1 (by simp)
    have hy := (h y).2 (by simp)
    have e : x = y := by
      rcases List.mem_cons.1 hx with h1 | h1
      · exact h1
      · rcases List.mem_cons.1 hy with h2 | h2
        · exact h2.symm
        · have := right_mem _ _ _ b3 h1
          have := right_mem _ _ _ a3 h2
          omega
    subst e
    rw [right_ext a b x a3 b3 fun z => ?_]
    have hz := h z
    constructor
    · intro hm
      rcases List.mem_cons.1 (hz.1 (List.mem_cons_of_mem _ hm)) with rfl | h1
      · have := right_mem _ _ _ a3 hm; omega
      · exact h1
    · intro hm
      rcases List.mem_cons.1 (hz.2 (List.mem_cons_of_mem _ hm)) with rfl | h1
      · have := right_mem _ _ _ b3 hm; omega
      · exact h1
theorem right_opt {op : Prop} [Decidable op] {x last : Int} {r : List Int} (h1 : last < x) (h2 : x < 1000) (h : rightFrom x r = true) : rightFrom last ((if op then [x] else []) ++ r) = true := by
  split
  · exact right_of h1 h2 h
  · exact right_up _ _ _ h (by omega)
theorem mrg_right (op : Bool → Bool → Bool) : ∀ (n : Nat) (a b : List Int) (last : Int), a.length + b.length ≤ n → rightFrom last a = true → rightFrom last b = true → rightFrom last (mrg op a b) = true := by
  intro n
  induction n with
  | zero =>
    intro a b last hn ha hb
    have h1 : a = [] := List.eq_nil_of_length_eq_zero (by omega)
    have h2 : b = [] := List.eq_nil_of_length_eq_zero (by omega)
    subst h1 h2
    rw [mrg]; rfl
  | succ n ih =>
    intro a b last hn ha hb
    cases a with
    | nil =>
      cases b with
      | nil => rw [mrg]; rfl
      | cons y b =>
        obtain ⟨b1, b2, b3⟩ := right_cons hb
        simp only [List.length_nil, List.length_cons] at hn
        rw [mrg]
        exact right_opt b1 b2 (ih [] b y (by simp; omega) rfl b3)
    | cons x a =>
      obtain ⟨a1, a2, a3⟩ := right_cons ha
      cases b with
      | nil =>
        simp only [List.length_nil, List.length_cons] at hn
        rw [mrg]
        exact right_opt a1 a2 (ih a [] x (by simp; omega) a3 rfl)
      | cons y b =>
        obtain ⟨b1, b2, b3⟩ := right_cons hb
        simp only [List.length_cons] at hn
        rw [mrg]
        by_cases h1 : x < y
        · rw [if_pos h1]
          exact right_opt a1 a2 (ih a (y :: b) x (by simp only [List.length_cons]; omega) a3 (right_of h1 b2 b3))
        · rw [if_neg h1]
          by_cases h2 : y < x
          · rw [if_pos h2]
            exact right_opt b1 b2 (ih (x :: a) b y (by simp only [List.length_cons]; omega) (right_of h2 a2 a3) b3)
          · rw [if_neg h2]
            have e : x = y := by omega
            subst e
            exact right_opt b1 b2 (ih a b x (by omega) a3 b3)
theorem mem_opt {op : Prop} [Decidable op] {x z : Int} {r : List Int} : z ∈ (if op then [x] else []) ++ r ↔ (op ∧ z = x) ∨ z ∈ r := by
  split
  · rename_i h; simp [h]
  · rename_i h; simp [h]
theorem mrg_mem (op : Bool → Bool → Bool) (h00 : op false false = false) : ∀ (n : Nat) (a b : List Int) (last : Int), a.length + b.length ≤ n → rightFrom last a = true → rightFrom last b = true → ∀ z, z ∈ mrg op a b ↔ op (decide (z ∈ a)) (decide (z ∈ b)) = true := by
  intro n
  induction n with
  | zero =>
    intro a b last hn ha hb z
    have h1 : a = [] := List.eq_nil_of_length_eq_zero (by omega)
    have h2 : b = [] := List.eq_nil_of_length_eq_zero (by omega)
    subst h1 h2
    rw [mrg]; simp [h00]
  | succ n ih =>
    intro a b last hn ha hb z
    cases a with
    | nil =>
      cases b with
      | nil => rw [mrg]; simp [h00]
      | cons y b =>
        obtain ⟨b1, b2, b3⟩ := right_cons hb
        simp only [List.length_nil, List.length_cons] at hn
        rw [mrg, mem_opt, ih [] b y (by simp; omega) rfl b3 z]
        by_cases hz : z = y
        · subst hz
          have : ¬ z ∈ b := fun h => by have := right_mem _ _ _ b3 h; omega
          simp [this, h00]
        · simp [hz]
    | cons x a =>
      obtain ⟨a1, a2, a3⟩ := right_cons ha
      cases b with
      | nil =>
        simp only [List.length_nil, List.length_cons] at hn
        rw [mrg, mem_opt, ih a [] x (by simp; omega) a3 rfl z]
        by_cases hz : z = x
        · subst hz
          have : ¬ z ∈ a := fun h => by have := right_mem _ _ _ a3 h; omega
          simp [this, h00]
        · simp [hz]
      | cons y b =>
        obtain ⟨b1, b2, b3⟩ := right_cons hb
        simp only [List.length_cons] at hn
        rw [mrg]
        by_cases h1 : x < y
        · rw [if_pos h1, mem_opt, ih a (y :: b) x (by simp only [List.length_cons]; omega) a3 (right_of h1 b2 b3) z]
          by_cases hz : z = x
          · subst hz
            have e1 : ¬ z ∈ a := fun h => by have := right_mem _ _ _ a3 h; omega
            have e2 : ¬ z ∈ y :: b := fun h => by have := right_mem _ _ _ (right_of h1 b2 b3) h; omega
            simp only [e1, e2, List.mem_cons_self, decide_true, decide_false, h00, Bool.false_eq_true, or_false, and_true]
          · have e : (z ∈ x :: a) ↔ z ∈ a := by simp [hz]
            simp only [hz, and_false, false_or, e]
        · rw [if_neg h1]
          by_cases h2 : y < x
          · rw [if_pos h2, mem_opt, ih (x :: a) b y (by simp only [List.length_cons]; omega) (right_of h2 a2 a3) b3 z]
            by_cases hz : z = y
            · subst hz
              have e1 : ¬ z ∈ b := fun h => by have := right_mem _ _ _ b3 h; omega
              have e2 : ¬ z ∈ x :: a := fun h => by have := right_mem _ _ _ (right_of h2 a2 a3) h; omega
              simp only [e1, e2, List.mem_cons_self, decide_true, decide_false, h00, Bool.false_eq_true, or_false, and_true]
            · have e : (z ∈ y :: b) ↔ z ∈ b := by simp [hz]
              simp only [hz, and_false, false_or, e]
          · rw [if_neg h2]
            have e : x = y := by omega
            subst e
            rw [mem_opt, ih a b x (by omega) a3 b3 z]
            by_cases hz : z = x
            · subst hz
              have e1 : ¬ z ∈ b := fun h => by have := right_mem _ _ _ b3 h; omega
              have e2 : ¬ z ∈ a := fun h => by have := right_mem _ _ _ a3 h; omega
              simp only [e1, e2, List.mem_cons_self, decide_true, decide_false, h00, Bool.false_eq_true, or_false, and_true]
            · have e : (z ∈ x :: a) ↔ z ∈ a := by simp [hz]
              have e' : (z ∈ x :: b) ↔ z ∈ b := by simp [hz]
              simp only [hz, and_false, false_or, e, e']
def goodL (l : List Int) : List Int := if rightFrom (-1) l = true then l else []
theorem goodL_right (l : List Int) : rightFrom (-1) (goodL l) = true := by
  unfold goodL
  split
  · assumption
  · rfl
theorem goodL_len (l : List Int) : (goodL l).length ≤ l.length := by
  unfold goodL
  split
  · omega
  · simp
theorem goodE (l : List Int) (hl : l.length ≤ 1000000000) : Evl (fun k => post_good.f k l) (goodL l) := by
  unfold post_good.f
  refine Evl.bind (rightE l hl) ?_
  unfold goodL
  cases h : rightFrom (-1) l
  · exact Evl.ret _
  · exact Evl.ret _
def opB (a b : Bool) : Bool := a && b
def opE (a b : Bool) : Bool := a || b
def opN (a b : Bool) : Bool := a && !b
def bothL (a b : List Int) : List Int := mrg opB (goodL a) (goodL b)
def eitherL (a b : List Int) : List Int := mrg opE (goodL a) (goodL b)
def butL (a b : List Int) : List Int := mrg opN (goodL a) (goodL b)
theorem bothE (a b : List Int) (ha : a.length ≤ 100000000) (hb : b.length ≤ 100000000) : Evl (fun k => post_Both.f k a b) (bothL a b) := by
  unfold post_Both.f post_join_of23.f
  have h1 := goodL_len a
  have h2 := goodL_len b
  refine Evl.bind (Evl.bind (goodE a (by omega)) (Evl.bind (goodE b (by omega)) ((join_gen (op := opB) (opf := post_Both_1.f) (fun a b => by cases a <;> rfl) (fun _ _ _ _ => post_join_of23.l0.eq_2 ..) (fun _ _ _ _ _ => post_join_of23.j1.eq_2 ..) (fun _ _ _ _ _ => post_join_of23.j2.eq_2 ..) (fun _ _ _ _ _ _ => post_join_of23.j3.eq_2 ..) (fun _ _ _ _ _ _ _ => post_join_of23.j4.eq_2 ..) _ (goodL a) (goodL b) [] (Nat.le_refl _) (by simp; omega)).cast (List.nil_append _)))) (Evl.ret _)
theorem eitherE (a b : List Int) (ha : a.length ≤ 100000000) (hb : b.length ≤ 100000000) : Evl (fun k => post_Either.f k a b) (eitherL a b) := by
  unfold post_Either.f post_join_of24.f
  have h1 := goodL_len a
  have h2 := goodL_len b
  refine Evl.bind (Evl.bind (goodE a (by omega)) (Evl.bind (goodE b (by omega)) ((join_gen (op := opE) (opf := post_Either_1.f) (fun a b => by cases a <;> rfl) (fun _ _ _ _ => post_join_of24.l0.eq_2 ..) (fun _ _ _ _ _ => post_join_of24.j1.eq_2 ..) (fun _ _ _ _ _ => post_join_of24.j2.eq_2 ..) (fun _ _ _ _ _ _ => post_join_of24.j3.eq_2 ..) (fun _ _ _ _ _ _ _ => post_join_of24.j4.eq_2 ..) _ (goodL a) (goodL b) [] (Nat.le_refl _) (by simp; omega)).cast (List.nil_append _)))) (Evl.ret _)
theorem butE (a b : List Int) (ha : a.length ≤ 100000000) (hb : b.length ≤ 100000000) : Evl (fun k => post_But.f k a b) (butL a b) := by
  unfold post_But.f post_join_of25.f
  have h1 := goodL_len a
  have h2 := goodL_len b
  refine Evl.bind (Evl.bind (goodE a (by omega)) (Evl.bind (goodE b (by omega)) ((join_gen (op := opN) (opf := post_But_1.f) (fun a b => by cases a <;> cases b <;> rfl) (fun _ _ _ _ => post_join_of25.l0.eq_2 ..) (fun _ _ _ _ _ => post_join_of25.j1.eq_2 ..) (fun _ _ _ _ _ => post_join_of25.j2.eq_2 ..) (fun _ _ _ _ _ _ => post_join_of25.j3.eq_2 ..) (fun _ _ _ _ _ _ _ => post_join_of25.j4.eq_2 ..) _ (goodL a) (goodL b) [] (Nat.le_refl _) (by simp; omega)).cast (List.nil_append _)))) (Evl.ret _)
theorem both_right (a b : List Int) : rightFrom (-1) (bothL a b) = true := mrg_right _ _ _ _ _ (Nat.le_refl _) (goodL_right a) (goodL_right b)
theorem either_right (a b : List Int) : rightFrom (-1) (eitherL a b) = true := mrg_right _ _ _ _ _ (Nat.le_refl _) (goodL_right a) (goodL_right b)
theorem but_right (a b : List Int) : rightFrom (-1) (butL a b) = true := mrg_right _ _ _ _ _ (Nat.le_refl _) (goodL_right a) (goodL_right b)
theorem both_mem (a b : List Int) (z : Int) : z ∈ bothL a b ↔ z ∈ goodL a ∧ z ∈ goodL b := by
  unfold bothL
  rw [mrg_mem opB rfl _ _ _ _ (Nat.le_refl _) (goodL_right a) (goodL_right b) z]
  simp [opB]
theorem either_mem (a b : List Int) (z : Int) : z ∈ eitherL a b ↔ z ∈ goodL a ∨ z ∈ goodL b := by
  unfold eitherL
  rw [mrg_mem opE rfl _ _ _ _ (Nat.le_refl _) (goodL_right a) (goodL_right b) z]
  simp [opE]
theorem but_mem (a b : List Int) (z : Int) : z ∈ butL a b ↔ z ∈ goodL a ∧ ¬ z ∈ goodL b := by
  unfold butL
  rw [mrg_mem opN rfl _ _ _ _ (Nat.le_refl _) (goodL_right a) (goodL_right b) z]
  simp [opN]
end Go.Proofs.Ytgcfhgkhokljcaa.PurePost

import Derived.Test.YtpmefpdafkbphaaDoorZtWLast
namespace Go.Proofs.YtpmefpdafkbphaaDoor.HReg
open Go.Proofs.YtpmefpdafkbphaaDoorW.PrintLast
section
variable {P : Program} {ops : Array Oper} {Q : Exit → Act → World → Prop} {S : World → Prop} {ds : List Nat}
def setAll : Array Bool → List (Nat × Nat) → Array Bool
  | l, [] => l
  | l, i :: r => setAll (l.setIfInBounds i.1 true) r
def seqB (ops : Array Oper) (ds : List Nat) : Array Bool → List (Nat × Nat) → Bool
  | _, [] => true
  | l, i :: r => Region.free .any ops l i.1 && (Region.ready .any ops l).contains i.1 && Region.closedB .any ops l && Region.lastB .any ops l ds i.1 && seqB ops ds (l.setIfInBounds i.1 true) r
def Runs (P : Program) (ops : Array Oper) (Q : Exit → Act → World → Prop) (S : World → Prop) : List (Nat × Nat) → Act → Act → Prop
  | [], a, a' => a = a'
  | i :: r, a, a' => ∃ oi v, ops[i.1]? = some oi ∧ YieldsIf P ops S oi v a ∧ (∀ c a w, Q (.panic c) (a.put oi.dst v) w → Q (.panic c) a w) ∧ Runs P ops Q S r (a.put oi.dst v) a'
theorem Runs.nil {a : Act} : Runs P ops Q S [] a a := rfl
theorem Runs.cons {i N : Nat} {r : List (Nat × Nat)} {oi : Oper} {v : Value} {a a' : Act} (hi : ops[i]? = some oi) (hN : oi.dst = some N) (hQ : ∀ c a w, Q (.panic c) (a.put oi.dst v) w → Q (.panic c) a w) (hw : Region.wanted oi (yielded ops a.tmps) = true)
    (hy : ∀ w, S w → (execOp a.eval oi).run P w = .ok (.value v) w) {a1 : Act} (ha : a.put (some N) v = a1) (h : Runs P ops Q S r a1 a') : Runs P ops Q S ((i, N) :: r) a a' := by
  subst ha; (exact ⟨oi, v, hi, .inl ⟨hw, hy⟩, hQ, by rw [hN]; exact h⟩)
theorem Runs.off {i N : Nat} {r : List (Nat × Nat)} {oi : Oper} {a a' : Act} (hi : ops[i]? = some oi) (hN : oi.dst = some N) (hQ : ∀ c a w, Q (.panic c) (a.put oi.dst undef) w → Q (.panic c) a w) (hw : Region.wanted oi (yielded ops a.tmps) = false)
    {a1 : Act} (ha : a.put (some N) undef = a1) (h : Runs P ops Q S r a1 a') : Runs P ops Q S ((i, N) :: r) a a' := by
  subst ha; (exact ⟨oi, undef, hi, .inr ⟨hw, rfl⟩, hQ, by rw [hN]; exact h⟩)
theorem bulk0 (hs : Region.noSelect ops = true) {w : World} (hS : S w) : ∀ (is : List (Nat × Nat)) (fuel : Nat) (l : Array Bool) (a a' : Act),
    seqB ops ds l is = true → Runs P ops Q S is a a' → wpAnyLast P .any ops Q S ds fuel (setAll l is) a' w → wpAnyLast P .any ops Q S ds (fuel + is.length) l a w
  | [], fuel, l, a, a', _, hr, h => by
    obtain rfl : a = a' := hr
    exact h
  | i :: r, fuel, l, a, a', hc, hr, h => by
    obtain ⟨oi, v, hi, hy, hQ, hr⟩ := hr; simp only [seqB, Bool.and_eq_true] at hc; obtain ⟨⟨⟨⟨h1, h2⟩, h3⟩, h4⟩, h5⟩ := hc; exact wpAnyLast_take hi hs h1 h2 h3 h4 hQ hy hS (bulk0 hs hS r fuel _ _ a' h5 hr h)
theorem bulk {fuel n : Nat} {l : Array Bool} {a : Act} {w : World} (is : List (Nat × Nat)) (l' : Array Bool) {a' : Act} (hc : (Region.noSelect ops && seqB ops ds l is && (setAll l is == l')) = true) (hn : fuel + is.length = n)
    (hS : S w) (hr : Runs P ops Q S is a a') (h : wpAnyLast P .any ops Q S ds fuel l' a' w) : wpAnyLast P .any ops Q S ds n l a w := by
  subst hn; simp only [Bool.and_eq_true, beq_iff_eq] at hc; obtain ⟨⟨h1, h2⟩, h3⟩ := hc; subst h3; exact bulk0 h1 hS is fuel l a a' h2 hr h
theorem u32_w (n : Int) : IntKind.u32.wrap n = n % 4294967296 := by simp [IntKind.wrap, IntKind.bits, IntKind.signed]
theorem end_store {i n : Nat} {oi : Oper} {l : Array Bool} {a : Act} {w w1 : World} (l' : Array Bool) (hi : ops[i]? = some oi) (hN : oi.dst = none) (hc : readyB .any ops l l' i = true) (hd : i ∈ ds) (hend : (Region.ready .any ops l' == []) = true)
    (hw : Region.wanted oi (yielded ops a.tmps) = true) (hrun : (execOp a.eval oi).run P w = .ok .skip w1) (h : Q .normal a w1) : wpAnyLast P .any ops Q S ds (n + 1) l a w :=
  last_ l' hi hN hc hd (fun _ hK => skip_ hw hN hrun (hK.out _ _ (done_ hend h)))
end
end Go.Proofs.YtpmefpdafkbphaaDoor.HReg

import Derived.Test.YtpmefpdafkbphaaDoorZtWTab
namespace Go.Proofs.YtpmefpdafkbphaaDoor.HBulk
open Go.Proofs.YtpmefpdafkbphaaDoorW.PrintLast
section
variable {P : Program} {ops : Array Oper} {Q : Exit → Act → World → Prop} {S : World → Prop} {ds : List Nat}
def seqT (T : Bool × List (List Nat × List Nat)) (B : List Nat) (ds : List Nat) : List Bool → List (Nat × Option Nat × Bool) → Bool
  | _, [] => true
  | l, i :: r => (if i.2.2 then takeW T B ds l (l.set i.1 true) i.1 else anyT T l (l.set i.1 true) i.1) && seqT T B ds (l.set i.1 true) r
def seq0 (ops : Array Oper) (ds : List Nat) : Array Bool → List (Nat × Option Nat × Bool) → Bool
  | _, [] => true
  | l, i :: r => (if i.2.2 then takeB .any ops ds l (l.setIfInBounds i.1 true) i.1 else anyB .any ops l (l.setIfInBounds i.1 true) i.1) && seq0 ops ds (l.setIfInBounds i.1 true) r
def setL : List Bool → List (Nat × Option Nat × Bool) → List Bool
  | l, [] => l
  | l, i :: r => setL (l.set i.1 true) r
def set0 : Array Bool → List (Nat × Option Nat × Bool) → Array Bool
  | l, [] => l
  | l, i :: r => set0 (l.setIfInBounds i.1 true) r
def RunsM (P : Program) (ops : Array Oper) (Q : Exit → Act → World → Prop) (S : World → Prop) : List (Nat × Option Nat × Bool) → Act → Act → Prop
  | [], a, a' => a = a'
  | i :: r, a, a' => ∃ oi v, ops[i.1]? = some oi ∧ oi.dst = i.2.1 ∧ Region.wanted oi (yielded ops a.tmps) = true ∧ (∀ c a w, Q (.panic c) (a.put oi.dst v) w → Q (.panic c) a w) ∧ (∀ w, (i.2.2 = true → S w) → (execOp a.eval oi).run P w = .ok (.value v) w) ∧ RunsM P ops Q S r (a.put oi.dst v) a'
theorem RunsM.nil {a : Act} : RunsM P ops Q S [] a a := rfl
theorem RunsM.cons {i : Nat} {N : Option Nat} {t : Bool} {r : List (Nat × Option Nat × Bool)} {oi : Oper} {v : Value} {a a' : Act} (hi : ops[i]? = some oi) (hN : oi.dst = N) (hQ : ∀ c a w, Q (.panic c) (a.put oi.dst v) w → Q (.panic c) a w) (hw : Region.wanted oi (yielded ops a.tmps) = true)
    (hy : ∀ w, (t = true → S w) → (execOp a.eval oi).run P w = .ok (.value v) w) {a1 : Act} (ha : a.put N v = a1) (h : RunsM P ops Q S r a1 a') : RunsM P ops Q S ((i, N, t) :: r) a a' := by
  subst ha; (exact ⟨oi, v, hi, hN, hw, hQ, hy, by rw [hN]; exact h⟩)
theorem bulk0 {w : World} (hS : S w) : ∀ (is : List (Nat × Option Nat × Bool)) (fuel : Nat) (l : Array Bool) (a a' : Act),
    seq0 ops ds l is = true → RunsM P ops Q S is a a' → wpAnyLast P .any ops Q S ds fuel (set0 l is) a' w → wpAnyLast P .any ops Q S ds (fuel + is.length) l a w
  | [], fuel, l, a, a', _, hr, h => by
    obtain rfl : a = a' := hr
    exact h
  | (i, N, t) :: r, fuel, l, a, a', hc, hr, h => by
    obtain ⟨oi, v, hi, hN, hw, hQ, hy, hr⟩ := hr; simp only [seq0, Bool.and_eq_true] at hc; have h2 := bulk0 hS r fuel _ _ a' hc.2 hr h; cases t
    · exact pure_ _ hi rfl hc.1 hQ (.inl ⟨hw, fun w => hy w (fun h => by cases h)⟩) rfl h2
    · exact take_ _ hi rfl hc.1 hQ (.inl ⟨hw, fun w hs => hy w (fun _ => hs)⟩) hS rfl h2
theorem seq0_of {T : Bool × List (List Nat × List Nat)} {B : List Nat} (hT : rtab .any ops = T) (hB : waitsOk T.2 B = true) : ∀ (is : List (Nat × Option Nat × Bool)) (l : Array Bool), seqT T B ds l.toList is = true → seq0 ops ds l is = true
  | [], _, _ => rfl
  | (i, N, t) :: r, l, h => by
    simp only [seqT, Bool.and_eq_true] at h; have e : (l.setIfInBounds i true).toList = l.toList.set i true := Array.toList_setIfInBounds; simp only [seq0, Bool.and_eq_true]; (refine ⟨?_, seq0_of hT hB r _ (by rw [e]; exact h.2)⟩); cases t
    · exact any_of hT (by rw [e]; exact h.1)
    · exact take_ofW hT hB (by rw [e]; exact h.1)
theorem set0_of : ∀ (is : List (Nat × Option Nat × Bool)) (l : Array Bool), (set0 l is).toList = setL l.toList is
  | [], _ => rfl
  | (i, N, t) :: r, l => by
    rw [set0, set0_of r, setL, Array.toList_setIfInBounds]
theorem bulkT {fuel n : Nat} {l : Array Bool} {a : Act} {w : World} {T : Bool × List (List Nat × List Nat)} {B : List Nat} (hT : rtab .any ops = T) (hB : waitsOk T.2 B = true) (is : List (Nat × Option Nat × Bool)) (l' : Array Bool) {a' : Act}
    (hc : (seqT T B ds l.toList is && (setL l.toList is == l'.toList)) = true) (hn : fuel + is.length = n) (hS : S w) (hr : RunsM P ops Q S is a a') (h : wpAnyLast P .any ops Q S ds fuel l' a' w) : wpAnyLast P .any ops Q S ds n l a w := by
  subst hn; simp only [Bool.and_eq_true, beq_iff_eq] at hc; (have e : set0 l is = l' := Array.ext' (by rw [set0_of]; exact hc.2)); (exact bulk0 hS is fuel l a a' (seq0_of hT hB is l hc.1) hr (by rw [e]; exact h))
end
end Go.Proofs.YtpmefpdafkbphaaDoor.HBulk

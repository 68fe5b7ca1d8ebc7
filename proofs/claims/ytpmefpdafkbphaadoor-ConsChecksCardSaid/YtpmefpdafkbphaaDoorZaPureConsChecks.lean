import Derived.Test.YtpmefpdafkbphaaDoorZaPConsChecks
import Derived.Test.YtpmefpdafkbphaaDoorZaPureConsK
import Derived.Test.YtpmefpdafkbphaaDoorZaPureCons4
namespace Go.Proofs.YtpmefpdafkbphaaDoor.Pure
open Go.RowKit Go.Proofs.YtpmefpdafkbphaaDoor.HSha Go.Proofs.YtpmefpdafkbphaaDoor.PS Go.Proofs.YtpmefpdafkbphaaDoor.PB Go.Proofs.YtpmefpdafkbphaaDoor.PC Go.Proofs.YtpmefpdafkbphaaDoor.PP Go.Proofs.YtpmefpdafkbphaaDoor.PK Go.Proofs.YtpmefpdafkbphaaDoor.HProve Go.Proofs.YtpmefpdafkbphaaDoor.PConsChecks Go.Proofs.YtpmefpdafkbphaaDoor.PureS Go.Proofs.YtpmefpdafkbphaaDoor.PureO Go.Proofs.YtpmefpdafkbphaaDoor.PureTree Go.Proofs.YtpmefpdafkbphaaDoor.PureCons Go.Proofs.YtpmefpdafkbphaaDoor.Thy Go.Proofs.YtpmefpdafkbphaaDoor.Evl Go.Proofs.YtpmefpdafkbphaaDoorW.PrintWords Go.Proofs.YtpmefpdafkbphaaDoorW.PrintLast Go.Proofs.YtpmefpdafkbphaaDoorW.PrintMore
set_option linter.unusedVariables false
def fairB (m n : Int) (one two : ByteArray) : Bool := decide (0 ≤ m ∧ m ≤ n ∧ n ≤ 1099511627776 ∧ one.size = 32 ∧ two.size = 32)
theorem fairE (m n : Int) (one two : ByteArray) : Evl (fun _ => rubrickref07_Fair.f m n one two) (fairB m n one two) := by
  unfold rubrickref07_Fair.f fairB
  by_cases h1 : m ≥ 0
  rotate_left
  · exact (Evl.neg h1 (Evl.ret _)).cast (decide_eq_false (fun h => by omega)).symm
  refine Evl.pos h1 ?_
  by_cases h2 : n ≥ m
  rotate_left
  · exact (Evl.neg h2 (Evl.ret _)).cast (decide_eq_false (fun h => by omega)).symm
  refine Evl.pos h2 ?_
  by_cases h3 : n ≤ 1099511627776
  rotate_left
  · exact (Evl.neg h3 (Evl.ret _)).cast (decide_eq_false (fun h => by omega)).symm
  refine Evl.pos h3 ?_
  by_cases h4 : (one.size : Int) = 32
  rotate_left
  · exact (Evl.neg h4 (Evl.ret _)).cast (decide_eq_false (fun h => by omega)).symm
  refine Evl.pos h4 (Evl.ret' ?_)
  rw [Bool.eq_iff_iff, beq_iff_eq, decide_eq_true_eq]
  omega
theorem rCheckE (m n : Int) (one two : ByteArray) (p : List ByteArray) (hp : p.length ≤ 1000000) (hf : fairB m n one two = true) : Evl (fun k => rubrickref07_Check.f k m n one two p) (decide (checkA m n one two p = 0)) := by
  have hf := of_decide_eq_true hf
  unfold rubrickref07_Check.f checkA
  rw [if_neg (fun h => h hf)]
  refine Evl.bind (rrightE p (by omega)) ?_
  by_cases ok : okD p = true
  rotate_left
  · exact (Evl.neg ok (Evl.ret _)).cast (by rw [if_pos (Bool.eq_false_iff.2 ok)]; rfl)
  refine Evl.pos ok ?_
  rw [if_neg (show ¬ okD p = false by rw [ok]; decide)]
  by_cases h5 : m = 0
  · refine Evl.pos h5 ?_
    rw [if_pos h5]
    by_cases h6 : p = []
    · subst h6
      refine Evl.pos rfl (Evl.bind (rsumE [] (by simp) (by simp)) (Evl.ret' ?_))
      by_cases h7 : one.toList = (shaSum []).toList
      · rw [if_pos ⟨rfl, h7⟩, beq_iff_eq.2 h7]; rfl
      · rw [if_neg (fun h => h7 h.2), beq_eq_false_iff_ne.2 h7]; rfl
    · exact (Evl.neg (fun h => h6 (List.eq_nil_of_length_eq_zero (by omega))) (Evl.ret _)).cast (by rw [if_neg (fun h => h6 h.1)]; rfl)
  refine Evl.neg h5 ?_
  rw [if_neg h5]
  obtain ⟨a, rfl⟩ : ∃ a : Nat, m = (a : Int) := ⟨m.toNat, by omega⟩
  obtain ⟨b, rfl⟩ : ∃ b : Nat, n = (b : Int) := ⟨n.toNat, by omega⟩
  rw [Int.toNat_natCast, Int.toNat_natCast]
  refine Evl.bind (rRootsE one (by omega) b a b true p rfl (by omega) (by omega) (by omega) hp (fun d hd => okD_mem ok hd)) ?_
  by_cases e0 : (rts a b true one p).2.2 = true
  · refine Evl.pos e0 ?_
    by_cases e1 : (rts a b true one p).1.toList = one.toList
    · refine Evl.pos e1 (Evl.ret' ?_)
      by_cases e2 : (rts a b true one p).2.1.toList = two.toList
      · rw [if_pos ⟨e0, e1, e2⟩, beq_iff_eq.2 e2]; rfl
      · rw [if_neg (fun h => e2 h.2.2), beq_eq_false_iff_ne.2 e2]; rfl
    · exact (Evl.neg e1 (Evl.ret _)).cast (by rw [if_neg (fun h => e1 h.2.1)]; rfl)
  · exact (Evl.neg e0 (Evl.ret _)).cast (by rw [if_neg (fun h => e0 h.1)]; rfl)
theorem checkA_vals (m n : Int) (one two : ByteArray) (p : List ByteArray) (hf : fairB m n one two = true) : checkA m n one two p = 0 ∨ checkA m n one two p = 6 := by
  unfold checkA
  rw [if_neg (fun h => h (of_decide_eq_true hf))]
  split
  · exact .inr rfl
  · split
    · split
      · exact .inl rfl
      · exact .inr rfl
    · split
      · exact .inl rfl
      · exact .inr rfl
theorem ConsChecks (m n : Int) (one two : ByteArray) (p : List ByteArray) (_ : (Lit.int .i64 m).wf = true) (_ : (Lit.int .i64 n).wf = true) (_ : one.size ≤ 9223372036854775807) (_ : two.size ≤ 9223372036854775807) (hl : p.length ≤ 9223372036854775807 ∧ ∀ x ∈ p, x.size ≤ 9223372036854775807) : ∃ k, rubricklaw07_ConsChecks.f k m n one two p = some true := by
  refine Evl.ex (f := fun k => rubricklaw07_ConsChecks.f k m n one two p) ?_
  have out : Evl (fun k => rubricklaw07_ConsChecks.j0 k m n one two p true) true := Evl.step (fun _ => rubricklaw07_ConsChecks.j0.eq_2 ..) (Evl.pos rfl knows07E)
  unfold rubricklaw07_ConsChecks.f
  refine Evl.bind (greatE p hl.1) ?_
  cases hg : greatD p
  rotate_left
  · exact Evl.pos rfl out
  have hn := great_len hg
  refine Evl.neg (by simp) ?_
  by_cases h1 : (one.size : Int) > 1000
  · exact Evl.pos h1 out
  refine Evl.neg h1 ?_
  by_cases h2 : (two.size : Int) > 1000
  · rw [decide_eq_true h2]; exact out
  rw [decide_eq_false h2]
  refine Evl.step (fun _ => rubricklaw07_ConsChecks.j0.eq_2 ..) (Evl.neg (by decide) (Evl.bind (CheckE m n one two p (by omega)) (Evl.bind (fairE m n one two) ?_)))
  by_cases hf : fairB m n one two = true
  · refine Evl.pos hf (Evl.bind (rCheckE m n one two p (by omega) hf) ?_)
    rcases checkA_vals m n one two p hf with h | h
    · rw [h]; exact Evl.pos rfl (Evl.pos rfl knows07E)
    · rw [h]; exact Evl.neg (by decide) (Evl.pos rfl knows07E)
  · refine Evl.neg hf ?_
    have : checkA m n one two p = 1 := by
      unfold checkA
      exact if_pos (fun h => hf (decide_eq_true h))
    rw [this]
    exact Evl.pos rfl knows07E
end Go.Proofs.YtpmefpdafkbphaaDoor.Pure

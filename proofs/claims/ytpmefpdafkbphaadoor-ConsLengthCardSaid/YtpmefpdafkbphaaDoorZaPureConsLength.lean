import Derived.Test.YtpmefpdafkbphaaDoorZaPConsLength
import Derived.Test.YtpmefpdafkbphaaDoorZaPureConsK
import Derived.Test.YtpmefpdafkbphaaDoorZaPureCons4
namespace Go.Proofs.YtpmefpdafkbphaaDoor.Pure
open Go.RowKit Go.Proofs.YtpmefpdafkbphaaDoor.HSha Go.Proofs.YtpmefpdafkbphaaDoor.PS Go.Proofs.YtpmefpdafkbphaaDoor.PB Go.Proofs.YtpmefpdafkbphaaDoor.PC Go.Proofs.YtpmefpdafkbphaaDoor.PP Go.Proofs.YtpmefpdafkbphaaDoor.PK Go.Proofs.YtpmefpdafkbphaaDoor.HProve Go.Proofs.YtpmefpdafkbphaaDoor.PConsLength Go.Proofs.YtpmefpdafkbphaaDoor.PureS Go.Proofs.YtpmefpdafkbphaaDoor.PureO Go.Proofs.YtpmefpdafkbphaaDoor.PureTree Go.Proofs.YtpmefpdafkbphaaDoor.PureCons Go.Proofs.YtpmefpdafkbphaaDoor.Thy Go.Proofs.YtpmefpdafkbphaaDoor.Evl Go.Proofs.YtpmefpdafkbphaaDoorW.PrintWords Go.Proofs.YtpmefpdafkbphaaDoorW.PrintLast Go.Proofs.YtpmefpdafkbphaaDoorW.PrintMore
set_option linter.unusedVariables false
/-- Two proofs that lead to roots are as long. -/
theorem rts_len (one : ByteArray) : ∀ (k m n : Nat) (wh : Bool) (p q : List ByteArray), n = k → (rts m n wh one p).2.2 = true → (rts m n wh one q).2.2 = true → p.length = q.length := by
  intro k
  induction k using Nat.strongRecOn with
  | _ k ih =>
    intro m n wh p q hk hp hq
    unfold rts at hp hq
    by_cases h : m = n
    · subst h
      rw [roots_same] at hp hq
      cases wh with
      | true => cases p <;> cases q <;> simp_all
      | false =>
        rw [if_neg (by decide)] at hp hq
        split at hp
        · split at hq
          · omega
          · cases hq
        · cases hp
    by_cases hp0 : p = []
    · subst hp0; rw [roots_nil nodeD E0 h] at hp; cases hp
    by_cases hq0 : q = []
    · subst hq0; rw [roots_nil nodeD E0 h] at hq; cases hq
    by_cases h2 : n < 2
    · rw [roots, if_neg h, if_neg hp0, dif_pos h2] at hp; cases hp
    obtain ⟨p, c, rfl⟩ := snoc_of hp0
    obtain ⟨q, d, rfl⟩ := snoc_of hq0
    have k1 := sp_lt (n := n) (by omega)
    have k2 := sp_pos n
    rw [List.length_append, List.length_append, List.length_singleton, List.length_singleton]
    by_cases hm : m ≤ sp n
    · rw [roots_left nodeD E0 h (by omega) hm] at hp hq
      rw [ih (sp n) (by omega) m (sp n) wh p q rfl hp hq]
    · rw [roots_right nodeD E0 h (by omega) hm] at hp hq
      rw [ih (n - sp n) (by omega) (m - sp n) (n - sp n) false p q rfl hp hq]
theorem checkA_len (m n : Int) (one two : ByteArray) (p q : List ByteArray) (hp : checkA m n one two p = 0) (hq : checkA m n one two q = 0) : p.length = q.length := by
  unfold checkA at hp hq
  split at hp
  · cases hp
  · next hf =>
    rw [if_neg hf] at hq
    split at hp
    · cases hp
    · split at hq
      · cases hq
      · split at hp
        · next h5 =>
          rw [if_pos h5] at hq
          split at hp
          · next h6 =>
            split at hq
            · next h7 => rw [h6.1, h7.1]
            · cases hq
          · cases hp
        · next h5 =>
          rw [if_neg h5] at hq
          split at hp
          · next h6 =>
            split at hq
            · next h7 => exact rts_len one n.toNat m.toNat n.toNat true p q rfl h6.1 h7.1
            · cases hq
          · cases hp
theorem ConsLength (m n : Int) (one two : ByteArray) (p q : List ByteArray) (_ : (Lit.int .i64 m).wf = true) (_ : (Lit.int .i64 n).wf = true) (_ : one.size ≤ 9223372036854775807) (_ : two.size ≤ 9223372036854775807) (hp : p.length ≤ 9223372036854775807 ∧ ∀ x ∈ p, x.size ≤ 9223372036854775807) (hq : q.length ≤ 9223372036854775807 ∧ ∀ x ∈ q, x.size ≤ 9223372036854775807) : ∃ k, rubricklaw07_ConsLength.f k m n one two p q = some true := by
  refine Evl.ex (f := fun k => rubricklaw07_ConsLength.f k m n one two p q) ?_
  have out : Evl (fun k => rubricklaw07_ConsLength.j0 k m n one two p q true) true := Evl.step (fun _ => rubricklaw07_ConsLength.j0.eq_2 ..) (Evl.pos rfl knows07E)
  unfold rubricklaw07_ConsLength.f
  refine Evl.bind (greatE p hp.1) ?_
  cases hg : greatD p
  rotate_left
  · exact Evl.pos rfl out
  have hn := great_len hg
  refine Evl.neg (by simp) (Evl.bind (greatE q hq.1) ?_)
  cases hg2 : greatD q
  rotate_left
  · exact Evl.pos rfl out
  have hn2 := great_len hg2
  refine Evl.neg (by simp) ?_
  by_cases h1 : (one.size : Int) = 32
  rotate_left
  · exact Evl.neg h1 out
  refine Evl.pos h1 ?_
  by_cases h2 : (two.size : Int) = 32
  rotate_left
  · exact Evl.neg h2 out
  refine Evl.pos h2 ?_
  by_cases h3 : p.length = q.length
  · rw [show ((p.length : Int) == (q.length : Int)) = true by rw [beq_iff_eq]; omega]; exact out
  rw [show ((p.length : Int) == (q.length : Int)) = false by rw [beq_eq_false_iff_ne]; omega]
  refine Evl.step (fun _ => rubricklaw07_ConsLength.j0.eq_2 ..) (Evl.neg (by decide) (Evl.bind (CheckE m n one two p (by omega)) ?_))
  by_cases h4 : checkA m n one two p = 0
  · refine Evl.pos h4 (Evl.bind (CheckE m n one two q (by omega)) ?_)
    exact Evl.neg (fun h5 => h3 (checkA_len m n one two p q h4 h5)) knows07E
  · exact Evl.neg h4 knows07E
end Go.Proofs.YtpmefpdafkbphaaDoor.Pure

import Derived.Test.YtpmefpdafkbphaaDoorZaPConsProves
import Derived.Test.YtpmefpdafkbphaaDoorZaPureConsK
namespace Go.Proofs.YtpmefpdafkbphaaDoor.Pure
open Go.RowKit Go.Proofs.YtpmefpdafkbphaaDoor.HSha Go.Proofs.YtpmefpdafkbphaaDoor.PS Go.Proofs.YtpmefpdafkbphaaDoor.PB Go.Proofs.YtpmefpdafkbphaaDoor.PC Go.Proofs.YtpmefpdafkbphaaDoor.PP Go.Proofs.YtpmefpdafkbphaaDoor.PK Go.Proofs.YtpmefpdafkbphaaDoor.HProve Go.Proofs.YtpmefpdafkbphaaDoor.PConsProves Go.Proofs.YtpmefpdafkbphaaDoor.PureS Go.Proofs.YtpmefpdafkbphaaDoor.PureO Go.Proofs.YtpmefpdafkbphaaDoor.PureTree Go.Proofs.YtpmefpdafkbphaaDoor.PureCons Go.Proofs.YtpmefpdafkbphaaDoor.Thy Go.Proofs.YtpmefpdafkbphaaDoor.Evl Go.Proofs.YtpmefpdafkbphaaDoorW.PrintWords Go.Proofs.YtpmefpdafkbphaaDoorW.PrintLast Go.Proofs.YtpmefpdafkbphaaDoorW.PrintMore
set_option linter.unusedVariables false
theorem ConsProves (l : List ByteArray) (m : Int) (hl : l.length ≤ 9223372036854775807 ∧ ∀ x ∈ l, x.size ≤ 9223372036854775807) (hi : (Lit.int .i64 m).wf = true) : ∃ k, rubricklaw07_ConsProves.f k l m = some true := by
  refine Evl.ex (f := fun k => rubricklaw07_ConsProves.f k l m) ?_
  unfold rubricklaw07_ConsProves.f
  refine Evl.bind (greatE l hl.1) ?_
  cases hg : greatD l
  rotate_left
  · exact Evl.pos rfl knows07E
  have hn := great_len hg
  refine Evl.neg (by simp) (Evl.bind (ProveE l (by omega) m) (Evl.bind (rrightE l (by omega)) ?_))
  have bad : ¬ (okD l = true ∧ 0 ≤ m ∧ m ≤ (l.length : Int)) → Evl (fun k => rubricklaw07_ConsProves.j0 k l m (proveA l m).1 (proveA l m).2 true) true := fun h => by
    unfold proveA
    rw [if_neg h]
    exact Evl.step (fun _ => rubricklaw07_ConsProves.j0.eq_2 ..) (Evl.pos rfl (Evl.pos rfl (Evl.pos rfl knows07E)))
  by_cases ok : okD l = true
  rotate_left
  · exact Evl.neg ok (bad fun h => ok h.1)
  refine Evl.pos ok ?_
  by_cases h1 : m < 0
  · exact Evl.pos h1 (bad fun h => by omega)
  refine Evl.neg h1 ?_
  by_cases h2 : m > (l.length : Int)
  · rw [decide_eq_true h2]; exact bad fun h => by omega
  rw [decide_eq_false h2]
  unfold proveA
  rw [if_pos ⟨ok, by omega, by omega⟩]
  have hp := partD_len l.length l m.toNat true rfl
  have hle : (if m = 0 then ([] : List ByteArray) else partD l m.toNat true).length ≤ 1000 := by
    split
    · simp
    · omega
  exact Evl.step (fun _ => rubricklaw07_ConsProves.j0.eq_2 ..) (Evl.neg (by decide) (Evl.bind (rProveE l (by omega) ok m (by omega) (by omega)) (Evl.bind (sameE _ (Nat.le_trans hle (by decide))) (Evl.pos rfl (Evl.pos rfl knows07E)))))
end Go.Proofs.YtpmefpdafkbphaaDoor.Pure

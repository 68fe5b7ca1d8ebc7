import Derived.Test.YtjcfimnijpcjmaaDoorZaPShaParts
import Derived.Test.YtjcfimnijpcjmaaDoorZaPureR
import Derived.Test.YtjcfimnijpcjmaaDoorZaPureS
import Derived.Test.YtjcfimnijpcjmaaDoorZaEvl
namespace Go.Proofs.YtjcfimnijpcjmaaDoor.Pure
open Go.RowKit Go.Proofs.YtjcfimnijpcjmaaDoor.HSha Go.Proofs.YtjcfimnijpcjmaaDoor.PS Go.Proofs.YtjcfimnijpcjmaaDoor.PX Go.Proofs.YtjcfimnijpcjmaaDoor.PK Go.Proofs.YtjcfimnijpcjmaaDoor.PR Go.Proofs.YtjcfimnijpcjmaaDoor.PShaParts Go.Proofs.YtjcfimnijpcjmaaDoor.Evl Go.Proofs.YtjcfimnijpcjmaaDoor.PureS Go.Proofs.YtjcfimnijpcjmaaDoor.PureR Go.Proofs.YtjcfimnijpcjmaaDoorW.PrintWords Go.Proofs.YtjcfimnijpcjmaaDoorW.PrintLast Go.Proofs.YtjcfimnijpcjmaaDoorW.PrintMore
set_option linter.unusedVariables false
theorem knows01E : Evl (fun k => (rubricklaw01_knows.f k).bind fun t => some t) true :=
  Evl.bind (f := fun k => rubricklaw01_knows.f k) ⟨_, up rubricklaw01_knows.mono rubricklaw01_knows.sure⟩ (Evl.ret _)
theorem rdl_at (l : List (List Int)) (i : Nat) (h : i < l.length) : rd_L1 l (i : Int) = l[i] := by
  unfold rd_L1
  rw [Int.toNat_natCast, List.getD_eq_getElem?_getD, List.getElem?_eq_getElem h]
  rfl
theorem addF (acc b : List Int) (ha : acc.length ≤ 1000000000) (hb : b.length ≤ 1000000000) : sha_Add.f (absorbs init acc).1.a (absorbs init acc).1.b (absorbs init acc).1.c (absorbs init acc).1.d (absorbs init acc).1.e (absorbs init acc).1.f (absorbs init acc).1.g (absorbs init acc).1.h (absorbs init acc).2 (acc.length : Int) b = some (flat (absorbs init (acc ++ b), ((acc ++ b).length : Int))) := by
  have hl := absorbs_len init acc
  unfold sha_Add.f
  rw [if_pos (by omega)]
  unfold addOf
  have hok : addOk (absorbs init acc).2 (acc.length : Int) b.length = true := by
    simp [addOk, rightB, hl]
    omega
  rw [if_pos hok]
  have e : vof (absorbs init acc).1.a (absorbs init acc).1.b (absorbs init acc).1.c (absorbs init acc).1.d (absorbs init acc).1.e (absorbs init acc).1.f (absorbs init acc).1.g (absorbs init acc).1.h = (absorbs init acc).1 := rfl
  rw [e, absorbs_app, List.length_append, Int.natCast_add]
theorem endF (acc : List Int) (ha : acc.length ≤ 1000000000) : sha_End.f (absorbs init acc).1.a (absorbs init acc).1.b (absorbs init acc).1.c (absorbs init acc).1.d (absorbs init acc).1.e (absorbs init acc).1.f (absorbs init acc).1.g (absorbs init acc).1.h (absorbs init acc).2 (acc.length : Int) = some (shaSum acc) := by
  have hl := absorbs_len init acc
  unfold sha_End.f endOf
  have hok : rightB (absorbs init acc).2.length (acc.length : Int) = true := by
    simp [rightB, hl]
    omega
  rw [if_pos hok]
  rfl
theorem parts_loop (l : List (List Int)) (hb : ∀ b ∈ l, ∀ x ∈ b, 0 ≤ x ∧ x < 256) : ∀ (d i : Nat) (acc : List Int), i + d = 20 → acc.length ≤ 1000 * i → (∀ x ∈ acc, 0 ≤ x ∧ x < 256) →
    Evl (fun k => rubricklaw01_ShaParts.l0 k l acc (i : Int) (absorbs init acc).1.a (absorbs init acc).1.b (absorbs init acc).1.c (absorbs init acc).1.d (absorbs init acc).1.e (absorbs init acc).1.f (absorbs init acc).1.g (absorbs init acc).1.h (absorbs init acc).2 (acc.length : Int)) true
  | 0, i, acc, h, hl, hr => by
    have fin : ∀ a b c d e f g h' (r : List Int) (n : Int), Evl (fun k => rubricklaw01_ShaParts.j1 k l acc (i : Int) false a b c d e f g h' r n) true := fun _ _ _ _ _ _ _ _ _ _ => Evl.step (fun _ => rubricklaw01_ShaParts.j1.eq_2 ..) (Evl.neg (by decide) knows01E)
    refine Evl.step (fun _ => rubricklaw01_ShaParts.l0.eq_2 ..) ?_
    by_cases hi : (i : Int) < (l.length : Int)
    · refine Evl.pos hi ?_
      rw [decide_eq_false (show ¬ (i : Int) < 20 by omega)]
      exact fin _ _ _ _ _ _ _ _ _ _
    · exact Evl.neg hi (fin _ _ _ _ _ _ _ _ _ _)
  | d + 1, i, acc, h, hl, hr => by
    refine Evl.step (fun _ => rubricklaw01_ShaParts.l0.eq_2 ..) ?_
    by_cases hi : (i : Int) < (l.length : Int)
    · refine Evl.pos hi ?_
      rw [decide_eq_true (show (i : Int) < 20 by omega)]
      have hi' : i < l.length := by omega
      refine Evl.step (fun _ => rubricklaw01_ShaParts.j1.eq_2 ..) (Evl.pos rfl (Evl.pos (by omega) (Evl.pos hi ?_)))
      have e : wrap64 ((i : Int) + 1) = ((i + 1 : Nat) : Int) := by unfold wrap64; omega
      rw [rdl_at l i hi', e]
      by_cases hg : ((l[i].length : Nat) : Int) > 1000
      · exact Evl.pos hg (parts_loop l hb d (i + 1) acc (by omega) (by omega) hr)
      · refine Evl.neg hg (Evl.some_bind (Evl.pos (by simp; omega) ?_))
        rw [List.nil_append, addF acc l[i] (by omega) (by omega)]
        have hlen : (acc ++ l[i]).length ≤ 1000 * (i + 1) := by rw [List.length_append]; omega
        have hr2 : ∀ x ∈ acc ++ l[i], 0 ≤ x ∧ x < 256 := fun x hx => by
          rcases List.mem_append.1 hx with h | h
          · exact hr x h
          · exact hb _ (List.getElem_mem hi') x h
        refine Evl.some_bind (Evl.pos (by rw [List.length_append] at hlen; omega) (Evl.some_bind (Evl.pos rfl (Evl.pos ?_ ?_))))
        · show ((absorbs init (acc ++ l[i])).2.length : Int) = ((acc ++ l[i]).length : Int) % 64
          rw [absorbs_len]; omega
        · refine Evl.bind (r := shaSum (acc ++ l[i])) (Evl.of 0 fun k _ => endF (acc ++ l[i]) (by omega)) ?_
          refine Evl.bind (f := fun k => rubrickref01_Sum.f k (acc ++ l[i])) (r := shaSum (acc ++ l[i])) ⟨(acc ++ l[i]).length + 300, fun k hk => refF _ hr2 (by omega) k hk⟩ (Evl.pos rfl ?_)
          exact parts_loop l hb d (i + 1) (acc ++ l[i]) (by omega) hlen hr2
    · exact Evl.neg hi (Evl.step (fun _ => rubricklaw01_ShaParts.j1.eq_2 ..) (Evl.neg (by decide) knows01E))
theorem ShaParts (l : List (List Int)) (hl : l.length ≤ 9223372036854775807 ∧ ∀ b ∈ l, b.length ≤ 9223372036854775807 ∧ ∀ x ∈ b, (Lit.int .u8 x).wf = true) : ∃ k, rubricklaw01_ShaParts.f k l = some true := by
  refine Evl.ex (f := fun k => rubricklaw01_ShaParts.f k l) ?_
  have hb : ∀ b ∈ l, ∀ x ∈ b, 0 ≤ x ∧ x < 256 := fun b hb x hx => by
    have := (hl.2 b hb).2 x hx
    simp [Lit.wf, IntKind.min, IntKind.max, IntKind.signed, IntKind.bits] at this
    omega
  exact Evl.some_bind (parts_loop l hb 20 0 [] rfl (by simp) (by simp))
end Go.Proofs.YtjcfimnijpcjmaaDoor.Pure

import Derived.Test.YtpmefpdafkbphaaDoorZaPureCons2
namespace Go.Proofs.YtpmefpdafkbphaaDoor.PureCons
open Go.RowKit Go.Proofs.YtpmefpdafkbphaaDoor.HSha Go.Proofs.YtpmefpdafkbphaaDoor.PS Go.Proofs.YtpmefpdafkbphaaDoor.PB Go.Proofs.YtpmefpdafkbphaaDoor.PC Go.Proofs.YtpmefpdafkbphaaDoor.PP Go.Proofs.YtpmefpdafkbphaaDoor.HNode Go.Proofs.YtpmefpdafkbphaaDoor.HProve Go.Proofs.YtpmefpdafkbphaaDoor.PureS Go.Proofs.YtpmefpdafkbphaaDoor.PureO Go.Proofs.YtpmefpdafkbphaaDoor.PureTree Go.Proofs.YtpmefpdafkbphaaDoor.Thy Go.Proofs.YtpmefpdafkbphaaDoor.Evl Go.Proofs.YtpmefpdafkbphaaDoorW.PrintWords Go.Proofs.YtpmefpdafkbphaaDoorW.PrintLast Go.Proofs.YtpmefpdafkbphaaDoorW.PrintMore
set_option linter.unusedVariables false
abbrev rts (m n : Nat) (wh : Bool) (one : ByteArray) (p : List ByteArray) : ByteArray × ByteArray × Bool := roots nodeD E0 m n wh one p
theorem rts_size (one : ByteArray) (h1 : one.size ≤ 32) : ∀ (k m n : Nat) (wh : Bool) (p : List ByteArray), n = k → (∀ d ∈ p, d.size = 32) → (rts m n wh one p).1.size ≤ 32 ∧ (rts m n wh one p).2.1.size ≤ 32 := by
  intro k
  induction k using Nat.strongRecOn with
  | _ k ih =>
    intro m n wh p hk ok
    unfold rts
    by_cases h : m = n
    · subst h
      rw [roots_same]
      cases wh with
      | true => exact ⟨h1, h1⟩
      | false =>
        rw [if_neg (by decide)]
        split
        · match p with
          | [] => exact ⟨by decide, by decide⟩
          | d :: _ => exact ⟨Nat.le_of_eq (ok d (by simp)), Nat.le_of_eq (ok d (by simp))⟩
        · exact ⟨by decide, by decide⟩
    by_cases hp : p = []
    · subst hp; rw [roots_nil nodeD E0 h]; exact ⟨by decide, by decide⟩
    by_cases h2 : n < 2
    · rw [roots, if_neg h, if_neg hp, dif_pos h2]; exact ⟨by decide, by decide⟩
    obtain ⟨q, d, rfl⟩ := snoc_of hp
    have k1 := sp_lt (n := n) (by omega)
    have k2 := sp_pos n
    have okq : ∀ d ∈ q, d.size = 32 := fun d hd => ok d (List.mem_append_left _ hd)
    by_cases hm : m ≤ sp n
    · rw [roots_left nodeD E0 h (by omega) hm]
      exact ⟨(ih (sp n) (by omega) m (sp n) wh q rfl okq).1, Nat.le_of_eq (nodeD_size _ _)⟩
    · rw [roots_right nodeD E0 h (by omega) hm]
      exact ⟨Nat.le_of_eq (nodeD_size _ _), Nat.le_of_eq (nodeD_size _ _)⟩
/-- The document's roots. -/
theorem rRootsE (one : ByteArray) (h1 : one.size ≤ 32) : ∀ (k m n : Nat) (wh : Bool) (p : List ByteArray), n = k → 1 ≤ m → m ≤ n → n ≤ 1099511627776 → p.length ≤ 1000000 → (∀ d ∈ p, d.size = 32) → Evl (fun j => rubrickref07_Roots.f j (m : Int) (n : Int) wh one p) (rts m n wh one p) := by
  intro k
  induction k using Nat.strongRecOn with
  | _ k ih =>
    intro m n wh p hk h0 hmn hn hp ok
    unfold rts
    refine Evl.step (fun _ => rubrickref07_Roots.f.eq_2 ..) ?_
    by_cases h : m = n
    · subst h
      refine Evl.pos rfl ?_
      rw [roots_same]
      cases wh with
      | true =>
        refine Evl.pos rfl (Evl.ret' ?_)
        rw [if_pos rfl]
        cases p <;> simp
        omega
      | false =>
        refine Evl.neg (by decide) ?_
        rw [if_neg (show ¬ (false = true) by decide)]
        by_cases hl : p.length = 1
        · rw [if_pos hl]
          refine Evl.pos (by omega) (Evl.pos (by omega) (Evl.ret' ?_))
          match p, hl with
          | [d], _ => rfl
        · rw [if_neg hl]
          exact Evl.neg (by omega) (Evl.ret' rfl)
    refine Evl.neg (by omega) ?_
    by_cases hp0 : p = []
    · subst hp0; rw [roots_nil nodeD E0 h]; exact Evl.pos rfl (Evl.ret' rfl)
    obtain ⟨q, d, rfl⟩ := snoc_of hp0
    have k1 := sp_lt (n := n) (by omega)
    have k2 := sp_pos n
    have okq : ∀ d ∈ q, d.size = 32 := fun d hd => ok d (List.mem_append_left _ hd)
    have hd : d.size = 32 := ok d (by simp)
    have hlen : (q ++ [d]).length = q.length + 1 := by simp
    have ew : wrap64 (((q ++ [d]).length : Int) - 1) = (q.length : Int) := by rw [hlen, wN (by omega) (by omega)]; omega
    have ed : rdOf ByteArray.empty (q ++ [d]) (q.length : Int) = d := by rw [rd_at _ _ q.length (by omega)]; simp
    have et : (q ++ [d]).take (q.length : Int).toNat = q := by rw [Int.toNat_natCast]; simp
    refine Evl.neg (by omega) (Evl.bind ((rsplitE _).cast (splitN_nat (by omega) hn)) ?_)
    rw [ew, ed, et]
    refine Evl.pos (by omega) (Evl.pos (by omega) (Evl.pos (by omega) ?_))
    by_cases hm : m ≤ sp n
    · rw [roots_left nodeD E0 h (by omega) hm]
      have hs := rts_size one h1 (sp n) m (sp n) wh q rfl okq
      exact Evl.pos (by omega) (Evl.bind (ih (sp n) (by omega) m (sp n) wh q rfl h0 hm (by omega) (by omega) okq) (Evl.bind (rnodeE _ _ (by omega) (by omega)) (Evl.ret' rfl)))
    · rw [roots_right nodeD E0 h (by omega) hm]
      have hs := rts_size one h1 (n - sp n) (m - sp n) (n - sp n) false q rfl okq
      refine Evl.neg (by omega) ?_
      rw [show wrap64 ((m : Int) - (sp n : Int)) = ((m - sp n : Nat) : Int) by rw [wN (by omega) (by omega)]; omega, show wrap64 ((n : Int) - (sp n : Int)) = ((n - sp n : Nat) : Int) by rw [wN (by omega) (by omega)]; omega]
      exact Evl.bind (ih (n - sp n) (by omega) (m - sp n) (n - sp n) false q rfl (by omega) (by omega) (by omega) (by omega) okq) (Evl.bind (rnodeE _ _ (by omega) (by omega)) (Evl.bind (rnodeE _ _ (by omega) (by omega)) (Evl.ret' rfl)))
end Go.Proofs.YtpmefpdafkbphaaDoor.PureCons

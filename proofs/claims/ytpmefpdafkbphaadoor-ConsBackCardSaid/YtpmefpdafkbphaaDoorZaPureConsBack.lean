import Derived.Test.YtpmefpdafkbphaaDoorZaPConsBack
import Derived.Test.YtpmefpdafkbphaaDoorZaPureConsD
namespace Go.Proofs.YtpmefpdafkbphaaDoor.Pure
open Go.RowKit Go.Proofs.YtpmefpdafkbphaaDoor.HSha Go.Proofs.YtpmefpdafkbphaaDoor.PS Go.Proofs.YtpmefpdafkbphaaDoor.PB Go.Proofs.YtpmefpdafkbphaaDoor.PC Go.Proofs.YtpmefpdafkbphaaDoor.PP Go.Proofs.YtpmefpdafkbphaaDoor.PK Go.Proofs.YtpmefpdafkbphaaDoor.HProve Go.Proofs.YtpmefpdafkbphaaDoor.PConsBack Go.Proofs.YtpmefpdafkbphaaDoor.PureS Go.Proofs.YtpmefpdafkbphaaDoor.PureO Go.Proofs.YtpmefpdafkbphaaDoor.PureTree Go.Proofs.YtpmefpdafkbphaaDoor.PureCons Go.Proofs.YtpmefpdafkbphaaDoor.Thy Go.Proofs.YtpmefpdafkbphaaDoor.Evl Go.Proofs.YtpmefpdafkbphaaDoorW.PrintWords Go.Proofs.YtpmefpdafkbphaaDoorW.PrintLast Go.Proofs.YtpmefpdafkbphaaDoorW.PrintMore
set_option linter.unusedVariables false
theorem ConsBack (l : List (List Int)) (a : Int) (hl : l.length ≤ 9223372036854775807 ∧ ∀ x ∈ l, x.length ≤ 9223372036854775807 ∧ ∀ y ∈ x, (Lit.int .u8 y).wf = true) (ha : (Lit.int .u8 a).wf = true) : ∃ k, rubricklaw07_ConsBack.f k l a = some true := by
  refine Evl.ex (f := fun k => rubricklaw07_ConsBack.f k l a) ?_
  unfold rubricklaw07_ConsBack.f
  refine Evl.bind (digsE l hl.1 (bytesOk_of hl.2)) ?_
  have hd := digs_len l 40
  have ok := digs_ok l 40
  obtain ⟨d, hdd⟩ : ∃ d, digs l 40 = d := ⟨_, rfl⟩
  rw [hdd] at hd ok ⊢
  have h0 := bytes_wf (l := [a]) (by simpa using ha) a (by simp)
  rw [show wrap64 ((d.length : Int) + 1) = ((d.length + 1 : Nat) : Int) by rw [wN (by omega) (by omega)]; omega, wN (n := a) (by omega) (by omega)]
  obtain ⟨m, hm, hlt⟩ : ∃ m : Nat, Int.tmod a ((d.length + 1 : Nat) : Int) = (m : Int) ∧ m ≤ d.length := by
    rw [Int.tmod_eq_emod_of_nonneg h0.1]
    have h2 := Int.emod_nonneg a (show ((d.length + 1 : Nat) : Int) ≠ 0 by omega)
    have h3 := Int.emod_lt_of_pos a (show (0 : Int) < ((d.length + 1 : Nat) : Int) by omega)
    exact ⟨(a % ((d.length + 1 : Nat) : Int)).toNat, by omega, by omega⟩
  rw [hm]
  have hp : proveA d (m : Int) = (if (m : Int) = 0 then [] else partD d m true, 0) := by
    unfold proveA
    rw [if_pos ⟨ok, by omega, by omega⟩, Int.toNat_natCast]
  refine Evl.neg (by omega) (Evl.bind ((ProveE d (by omega) m).cast hp) (Evl.pos (by omega) (Evl.pos (by omega) ?_)))
  rw [Int.toNat_natCast]
  refine Evl.bind ((trootE (d.take m) (by rw [List.length_take]; omega)).cast (if_pos (okD_take ok m))) (Evl.bind ((trootE d (by omega)).cast (if_pos ok)) (Evl.pos rfl (Evl.pos rfl (Evl.pos rfl ?_))))
  have hle : (if (m : Int) = 0 then ([] : List ByteArray) else partD d m true).length ≤ 1000000 := by
    have := partD_len d.length d m true rfl
    split
    · simp
    · omega
  exact Evl.bind ((CheckE m d.length _ _ _ hle).cast (check_own d ok (by omega) m hlt)) (Evl.pos rfl knows07E)
end Go.Proofs.YtpmefpdafkbphaaDoor.Pure

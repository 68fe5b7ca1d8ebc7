import Derived.Test.YtpmefpdafkbphaaDoorZaPConsEnds
import Derived.Test.YtpmefpdafkbphaaDoorZaPureConsD
namespace Go.Proofs.YtpmefpdafkbphaaDoor.Pure
open Go.RowKit Go.Proofs.YtpmefpdafkbphaaDoor.HSha Go.Proofs.YtpmefpdafkbphaaDoor.PS Go.Proofs.YtpmefpdafkbphaaDoor.PB Go.Proofs.YtpmefpdafkbphaaDoor.PC Go.Proofs.YtpmefpdafkbphaaDoor.PP Go.Proofs.YtpmefpdafkbphaaDoor.PK Go.Proofs.YtpmefpdafkbphaaDoor.HProve Go.Proofs.YtpmefpdafkbphaaDoor.PConsEnds Go.Proofs.YtpmefpdafkbphaaDoor.PureS Go.Proofs.YtpmefpdafkbphaaDoor.PureO Go.Proofs.YtpmefpdafkbphaaDoor.PureTree Go.Proofs.YtpmefpdafkbphaaDoor.PureCons Go.Proofs.YtpmefpdafkbphaaDoor.Thy Go.Proofs.YtpmefpdafkbphaaDoor.Evl Go.Proofs.YtpmefpdafkbphaaDoorW.PrintWords Go.Proofs.YtpmefpdafkbphaaDoorW.PrintLast Go.Proofs.YtpmefpdafkbphaaDoorW.PrintMore
set_option linter.unusedVariables false
theorem check_more (m n : Nat) (one two x : ByteArray) (h1 : one.size = 32) (h2 : two.size = 32) (hx : x.size = 32) (hmn : m ≤ n) (hn : n ≤ 1000000) (h : m = 0 ∨ m = n) : checkA (m : Int) (n : Int) one two [x] = 6 := by
  have ok : okD [x] = true := by simp [okD, hx]
  unfold checkA
  rw [if_neg (fun h => h ⟨by omega, by omega, by omega, h1, h2⟩), if_neg (by rw [ok]; decide)]
  by_cases h0 : m = 0
  · rw [if_pos (by omega), if_neg (fun h => by cases h.1)]
  · obtain rfl : m = n := by omega
    rw [if_neg (by omega), Int.toNat_natCast]
    refine if_neg (fun h => ?_)
    have := h.1
    unfold rts at this
    rw [roots_same] at this
    exact absurd this (by simp)
theorem ConsEnds (l : List (List Int)) (a : ByteArray) (hl : l.length ≤ 9223372036854775807 ∧ ∀ x ∈ l, x.length ≤ 9223372036854775807 ∧ ∀ y ∈ x, (Lit.int .u8 y).wf = true) (ha : a.size ≤ 9223372036854775807) : ∃ k, rubricklaw07_ConsEnds.f k l a = some true := by
  refine Evl.ex (f := fun k => rubricklaw07_ConsEnds.f k l a) ?_
  unfold rubricklaw07_ConsEnds.f
  refine Evl.bind (digsE l hl.1 (bytesOk_of hl.2)) ?_
  have hd := digs_len l 40
  have ok := digs_ok l 40
  obtain ⟨d, hdd⟩ : ∃ d, digs l 40 = d := ⟨_, rfl⟩
  rw [hdd] at hd ok ⊢
  have hp : proveA d (d.length : Int) = (if (d.length : Int) = 0 then [] else partD d d.length true, 0) := by
    unfold proveA
    rw [if_pos ⟨ok, by omega, by omega⟩, Int.toNat_natCast]
  have e1 : (if (d.length : Int) = 0 then ([] : List ByteArray) else partD d d.length true) = [] := by
    split
    · rfl
    · rw [partD_all]; rfl
  have hq : proveA d 0 = ([], 0) := by
    unfold proveA
    rw [if_pos ⟨ok, by omega, by omega⟩]; rfl
  have s0 : rootD ([] : List ByteArray) = rootD (d.take 0) := by rw [List.take_zero]
  refine Evl.bind ((trootE d (by omega)).cast (if_pos ok)) (Evl.bind ((trootE [] (by simp)).cast (if_pos rfl)) (Evl.bind ((ProveE d (by omega) d.length).cast hp) (Evl.bind ((ProveE d (by omega) 0).cast hq) (Evl.pos rfl (Evl.pos rfl ?_)))))
  rw [e1]
  refine Evl.pos rfl (Evl.pos rfl ?_)
  by_cases h : (a.size : Int) = 32
  rotate_left
  · rw [show ((a.size : Int) != 32) = true by rw [bne_iff_ne]; exact h]
    exact Evl.step (fun _ => rubricklaw07_ConsEnds.j0.eq_2 ..) (Evl.pos rfl (Evl.neg h knows07E))
  · rw [show ((a.size : Int) != 32) = false by rw [h]; decide]
    have c1 := check_own d ok (by omega) d.length (Nat.le_refl _)
    have c2 := check_own d ok (by omega) 0 (Nat.zero_le _)
    rw [e1, List.take_length] at c1
    rw [← s0] at c2
    have z1 := rootD_size _ d rfl ok
    have z2 : (rootD ([] : List ByteArray)).size = 32 := rootD_size 0 [] rfl rfl
    have c3 := check_more d.length d.length (rootD d) (rootD d) a z1 z1 (by omega) (Nat.le_refl _) (by omega) (.inr rfl)
    have c4 := check_more 0 d.length (rootD []) (rootD d) a z2 z1 (by omega) (by omega) (by omega) (.inl rfl)
    exact Evl.step (fun _ => rubricklaw07_ConsEnds.j0.eq_2 ..) (Evl.neg (by decide) (Evl.bind ((CheckE _ _ _ _ _ (by simp)).cast c1) (Evl.pos rfl (Evl.bind ((CheckE 0 _ _ _ _ (by simp)).cast c2) (Evl.pos rfl (Evl.bind ((CheckE _ _ _ _ _ (by simp)).cast c3) (Evl.pos rfl (Evl.bind ((CheckE 0 _ _ _ _ (by simp)).cast c4) (Evl.pos rfl knows07E)))))))))
end Go.Proofs.YtpmefpdafkbphaaDoor.Pure

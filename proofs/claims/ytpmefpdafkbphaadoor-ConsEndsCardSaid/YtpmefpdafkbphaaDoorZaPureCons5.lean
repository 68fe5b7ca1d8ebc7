import Derived.Test.YtpmefpdafkbphaaDoorZaPureCons4
namespace Go.Proofs.YtpmefpdafkbphaaDoor.PureCons
open Go.RowKit Go.Proofs.YtpmefpdafkbphaaDoor.HSha Go.Proofs.YtpmefpdafkbphaaDoor.PS Go.Proofs.YtpmefpdafkbphaaDoor.PB Go.Proofs.YtpmefpdafkbphaaDoor.PC Go.Proofs.YtpmefpdafkbphaaDoor.PP Go.Proofs.YtpmefpdafkbphaaDoor.HNode Go.Proofs.YtpmefpdafkbphaaDoor.HProve Go.Proofs.YtpmefpdafkbphaaDoor.PureS Go.Proofs.YtpmefpdafkbphaaDoor.PureO Go.Proofs.YtpmefpdafkbphaaDoor.PureTree Go.Proofs.YtpmefpdafkbphaaDoor.Thy Go.Proofs.YtpmefpdafkbphaaDoor.Evl Go.Proofs.YtpmefpdafkbphaaDoorW.PrintWords Go.Proofs.YtpmefpdafkbphaaDoorW.PrintLast Go.Proofs.YtpmefpdafkbphaaDoorW.PrintMore
set_option linter.unusedVariables false
theorem rootD_two {l : List ByteArray} (h : 2 ≤ l.length) : rootD l = nodeD (rootD (l.take (sp l.length))) (rootD (l.drop (sp l.length))) := by
  unfold rootD; exact root_two nodeD emptyD h
theorem sp_same {m n : Nat} (h1 : sp n < m) (h2 : m ≤ n) (h3 : 2 ≤ n) : sp m = sp n := by
  have := sp_ge h3
  unfold sp at h1 this
  exact sp_uniq h1 (by omega)
theorem roots_part (one : ByteArray) : ∀ (n : Nat) (l : List ByteArray) (m : Nat) (wh : Bool), l.length = n → 1 ≤ m → m ≤ n → (wh = true → one = rootD (l.take m)) → rts m n wh one (partD l m wh) = (rootD (l.take m), rootD l, true) := by
  intro n
  induction n using Nat.strongRecOn with
  | _ n ih =>
    intro l m wh hl h0 h1 hw
    unfold rts
    by_cases h : m = n
    · subst h
      have e : partD l m wh = if wh = true then [] else [rootD l] := by rw [← hl]; exact partD_all wh
      rw [roots_same, e, ← hl, List.take_length]
      cases wh with
      | true =>
        have := hw rfl
        rw [← hl, List.take_length] at this
        rw [this]; rfl
      | false => rfl
    have h2 : 2 ≤ l.length := by omega
    have k1 := sp_lt h2
    have k2 := sp_pos l.length
    rw [rootD_two h2]
    by_cases hm : m ≤ sp l.length
    · rw [partD_left (by omega) h2 hm, roots_left nodeD E0 h (by omega) (by rw [← hl]; exact hm)]
      have e : (l.take (sp l.length)).take m = l.take m := by rw [List.take_take, Nat.min_eq_left hm]
      have := ih (sp n) (by rw [← hl]; omega) (l.take (sp l.length)) m wh (by rw [List.length_take, hl]; rw [hl] at k1; omega) h0 (by rw [← hl]; exact hm) (by rw [e]; exact hw)
      unfold rts at this
      rw [this, e]
    · rw [partD_right (by omega) h2 hm, roots_right nodeD E0 h (by omega) (by rw [← hl]; exact hm)]
      have := ih (n - sp n) (by rw [← hl]; omega) (l.drop (sp l.length)) (m - sp n) false (by rw [List.length_drop, hl]) (by rw [← hl]; omega) (by omega) (fun h => by cases h)
      unfold rts at this
      rw [hl] at this ⊢
      rw [this]
      have hs : sp (l.take m).length = sp n := by rw [List.length_take, Nat.min_eq_left (by omega)]; exact sp_same (by rw [← hl]; omega) h1 (by omega)
      have hm2 : sp n ≤ m := by rw [← hl]; omega
      rw [rootD_two (l := l.take m) (by rw [List.length_take]; omega), hs, List.take_take, Nat.min_eq_left hm2, List.drop_take]
theorem partD_ok : ∀ (n : Nat) (l : List ByteArray) (m : Nat) (wh : Bool), l.length = n → okD l = true → okD (partD l m wh) = true := by
  intro n
  induction n using Nat.strongRecOn with
  | _ n ih =>
    intro l m wh hl ok
    by_cases h : m = l.length
    · subst h
      rw [partD_all]
      cases wh with
      | true => rfl
      | false => simp [okD, rootD_size _ l rfl ok]
    by_cases h2 : 2 ≤ l.length
    · have k1 := sp_lt h2
      have k2 := sp_pos l.length
      have ok1 := okD_take ok (sp l.length)
      have ok2 := okD_drop ok (sp l.length)
      by_cases hm : m ≤ sp l.length
      · have e := ih (sp l.length) (by omega) (l.take (sp l.length)) m wh (by rw [List.length_take]; omega) ok1
        have s := rootD_size _ (l.drop (sp l.length)) rfl ok2
        rw [partD_left h h2 hm]
        unfold okD at *
        rw [List.all_append, e]
        simp [s]
      · have e := ih (l.length - sp l.length) (by omega) (l.drop (sp l.length)) (m - sp l.length) false (by rw [List.length_drop]) ok2
        have s := rootD_size _ (l.take (sp l.length)) rfl ok1
        rw [partD_right h h2 hm]
        unfold okD at *
        rw [List.all_append, e]
        simp [s]
    · rw [partD, if_neg h, dif_neg h2]; rfl
/-- An honest proof is accepted. -/
theorem check_own (l : List ByteArray) (ok : okD l = true) (hl : l.length ≤ 1000000) (m : Nat) (hm : m ≤ l.length) : checkA (m : Int) (l.length : Int) (rootD (l.take m)) (rootD l) (if (m : Int) = 0 then [] else partD l m true) = 0 := by
  have s1 := rootD_size _ (l.take m) rfl (okD_take ok m)
  have s2 := rootD_size _ l rfl ok
  have hp := partD_ok _ l m true rfl ok
  unfold checkA
  rw [if_neg (fun h => h ⟨by omega, by omega, by omega, s1, s2⟩)]
  by_cases h0 : m = 0
  · subst h0
    have e : emptyD = shaSum [] := rfl
    have : rootD (l.take 0) = emptyD := by unfold rootD; rw [List.take_zero, root_nil]
    have z : ((0 : Nat) : Int) = 0 := rfl
    rw [if_pos (c := ((0 : Nat) : Int) = 0) (t := ([] : List ByteArray)) z, if_neg (show ¬ okD [] = false by decide), if_pos z, if_pos ⟨rfl, by rw [this, e]⟩]
  · rw [if_neg (show ¬ (m : Int) = 0 by omega), if_neg (show ¬ okD (partD l m true) = false by rw [hp]; decide), if_neg (show ¬ (m : Int) = 0 by omega), Int.toNat_natCast, Int.toNat_natCast, roots_part _ _ l m true rfl (by omega) hm (fun _ => rfl)]
    exact if_pos ⟨rfl, rfl, rfl⟩
end Go.Proofs.YtpmefpdafkbphaaDoor.PureCons

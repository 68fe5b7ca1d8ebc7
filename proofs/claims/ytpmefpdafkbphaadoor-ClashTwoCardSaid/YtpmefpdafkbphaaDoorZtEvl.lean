namespace Go.Proofs.YtpmefpdafkbphaaDoor.Evl
set_option linter.unusedVariables false
def Evl {α : Type} (f : Nat → Option α) (r : α) : Prop := ∃ K, ∀ k, K ≤ k → f k = some r
section
variable {α β γ : Type}
theorem Evl.of {f : Nat → Option α} {r : α} (K : Nat) (h : ∀ k, K ≤ k → f k = some r) : Evl f r := ⟨K, h⟩
theorem Evl.ret (r : α) : Evl (fun _ => some r) r := ⟨0, fun _ _ => rfl⟩
theorem Evl.ret' {r s : α} (h : r = s) : Evl (fun _ => some r) s := ⟨0, fun _ _ => by rw [h]⟩
theorem Evl.cast {f : Nat → Option α} {r s : α} (h : Evl f r) (e : r = s) : Evl f s := e ▸ h
theorem Evl.bind {f : Nat → Option α} {g : Nat → α → Option β} {r : α} {s : β} (h : Evl f r) (h2 : Evl (fun k => g k r) s) : Evl (fun k => (f k).bind (g k)) s := by
  obtain ⟨K, h⟩ := h; obtain ⟨L, h2⟩ := h2; (exact ⟨max K L, fun k hk => by show (f k).bind (g k) = some s; rw [h k (by omega), Option.bind_some]; exact h2 k (by omega)⟩)
theorem Evl.step {f g : Nat → Option α} {r : α} (e : ∀ k, f (k + 1) = g k) (h : Evl g r) : Evl f r := by
  obtain ⟨K, h⟩ := h; (refine ⟨K + 1, fun k hk => ?_⟩); (obtain ⟨m, rfl⟩ : ∃ m, k = m + 1 := ⟨k - 1, by omega⟩); rw [e]; (exact h m (by omega))
theorem Evl.eq {f g : Nat → Option α} {r : α} (e : ∀ k, f k = g k) (h : Evl g r) : Evl f r := by
  obtain ⟨K, h⟩ := h; (exact ⟨K, fun k hk => by rw [e]; exact h k hk⟩)
theorem Evl.pos {c : Prop} [Decidable c] (hc : c) {f g : Nat → Option α} {r : α} (h : Evl f r) : Evl (fun k => if c then f k else g k) r := Evl.eq (fun k => if_pos hc) h
theorem Evl.neg {c : Prop} [Decidable c] (hc : ¬ c) {f g : Nat → Option α} {r : α} (h : Evl g r) : Evl (fun k => if c then f k else g k) r := Evl.eq (fun k => if_neg hc) h
theorem Evl.some_bind {a : α} {g : Nat → α → Option β} {s : β} (h : Evl (fun k => g k a) s) : Evl (fun k => (some a).bind (g k)) s := h
theorem Evl.ex {f : Nat → Option α} {r : α} (h : Evl f r) : ∃ k, f k = some r := by
  obtain ⟨K, h⟩ := h; exact ⟨K, h K (Nat.le_refl _)⟩
end
end Go.Proofs.YtpmefpdafkbphaaDoor.Evl

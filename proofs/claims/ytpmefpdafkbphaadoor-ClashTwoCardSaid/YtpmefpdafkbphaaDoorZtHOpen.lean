import Derived.Test.YtpmefpdafkbphaaDoorZtWWords
import Derived.ChangeArms
import Derived.DataReads
import Derived.OpenShut
namespace Go.Proofs.YtpmefpdafkbphaaDoor.HOpen
open Go.ChangeShapes Go.WideShapes Go.RowKit Go.Proofs.YtpmefpdafkbphaaDoorW.PrintWords
set_option linter.unusedVariables false
section
variable {P : Program} {W : World}
def Opn (P : Program) (W : World) {α : Type} (t : TypeId) (d : Kd α) (wf : α → Prop) : Prop :=
  ∀ (H : Type) (enc : TypeId × Value → H) (base : Nat) (spare : Nat → Bool) (held : Bool) (fuel : Nat) (cs : List Value) (y : DataW H × List MemPlace), DataW.trod enc P W base spare held fuel t cs = some y → ∃ x : α, d.K W x cs ∧ wf x
theorem opn_int {t : TypeId} {k : IntKind} (ht : P.underlying t = some (.int k)) : Opn P W t (Kd.int k) (fun n => (Lit.int k n).wf = true) := by
  intro H enc base spare held fuel cs y h; obtain ⟨n, rfl, _, hw⟩ := DataW.trod_int ht h; exact ⟨n, rfl, hw⟩
theorem gather {α : Type} {p : Nat → α → Prop} : ∀ n : Nat, (∀ i, i < n → ∃ x, p i x) → ∃ xs : List α, xs.length = n ∧ ∀ i x, xs[i]? = some x → p i x
  | 0, _ => ⟨[], rfl, by simp⟩
  | n + 1, h => by
    (obtain ⟨xs, hl, hx⟩ := gather n (fun i hi => h i (by omega))); (obtain ⟨x, hp⟩ := h n (by omega)); (refine ⟨xs ++ [x], by simp [hl], fun i z hz => ?_⟩); rcases Nat.lt_trichotomy i n with hi | hi | hi
    · rw [List.getElem?_append_left (by omega)] at hz
      exact hx i z hz
    · subst hi
      rw [← hl] at hz; simp at hz; subst hz; exact hp
    · rw [List.getElem?_eq_none (by simp; omega)] at hz
      cases hz
theorem opn_slice {α : Type} {t e : TypeId} {d : Kd α} {wf : α → Prop} (ht : P.underlying t = some (.slice e)) (hc : P.cellsOf e = d.sz) (he : Opn P W e d wf) :
    Opn P W t (Kd.slice e d) (fun xs => xs.length ≤ 9223372036854775807 ∧ ∀ x ∈ xs, wf x) := by
  intro H enc base spare held fuel cs y h; rcases DataW.trod_slice ht h with ⟨rfl, _⟩ | ⟨a, len, cap, elems, rest, n, _, rfl, _, hb, hl, hm, hlen, hel, _, _⟩
  · exact ⟨[], ⟨none, 0, rfl, Nat.le_refl _, rfl, Nat.zero_le _, fun h => absurd h (Nat.lt_irrefl _)⟩, Nat.zero_le _, by simp⟩
  · obtain ⟨xs, hxl, hx⟩ := gather (p := fun i x => ∃ cs', W.cells? base (a.add (i * P.cellsOf e)) (P.cellsOf e) = some cs' ∧ d.K W x cs' ∧ wf x) len (fun i hi => by
      have h1 := hel i hi; (have h2 : elems[i]? = some (elems[i]'(by omega)) := List.getElem?_eq_getElem (by omega)); rw [h2, Option.bind_eq_some_iff] at h1; obtain ⟨cs', hcs, hy⟩ := h1; obtain ⟨x, hk, hw⟩ := he H enc base spare held n cs' _ hy
      exact ⟨x, cs', hcs, hk, hw⟩)
    subst hxl; (have hm' : cap ≤ 9223372036854775807 := by simpa [maxLen] using hm); (refine ⟨xs, ⟨some a, cap, rfl, hl, rfl, Nat.le_trans hl hm', fun _ => ⟨a, rfl, fun j p hp => ?_⟩⟩, Nat.le_trans hl hm', fun x hxm => ?_⟩)
    · obtain ⟨cs', hcs, hk, hw⟩ := hx j p hp
      obtain ⟨_, hcl, hcell⟩ := World.cells?_some hcs; rw [hc] at hcl hcell; (refine ⟨cs', hcl, hk, fun i u hu => ?_⟩)
      have hi : i < cs'.length := by
        rcases Nat.lt_or_ge i cs'.length with hh | hh
        · exact hh
        · rw [List.getElem?_eq_none hh] at hu; cases hu
      (have := hcell i (by omega)); rw [Addr.add_add] at this; rw [this, hu]
    · obtain ⟨i, hi⟩ := List.getElem?_of_mem hxm
      exact (hx i x hi).elim fun _ h => h.2.2
theorem arg_slice {α : Type} {H : Type} {enc : TypeId × Value → H} {base : Nat} {spare : Nat → Bool} {held : Bool} {t e : TypeId} {d : Kd α} {wf : List α → Prop} {a : Option Addr} {len cap : Nat} {x : DataW H} {p : List MemPlace} (ho : Opn P W t (Kd.slice e d) wf)
    (h : DataW.Trod enc P W base spare held t (.slice a len cap) x p) : ∃ l : List α, len = l.length ∧ Kd.C d W a l.length l ∧ l.length ≤ cap ∧ wf l := by
  obtain ⟨fuel, hf⟩ := h; obtain ⟨l, ⟨A, c, e1, hl, hC⟩, hw⟩ := ho H enc base spare held fuel _ _ hf; simp [Value.cells] at e1; obtain ⟨rfl, rfl, rfl⟩ := e1; exact ⟨l, rfl, hC, hl, hw⟩
end
end Go.Proofs.YtpmefpdafkbphaaDoor.HOpen

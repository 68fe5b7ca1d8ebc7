import Derived.Test.YtpmefpdafkbphaaDoorRows
import Derived.Test.YtpmefpdafkbphaaDoorZtHShaA
import Derived.ChangeSame
import Derived.ChangeVars
import Derived.JoinedOf
namespace Go.Proofs.YtpmefpdafkbphaaDoor.HLaid
open Go.ChangeShapes Go.WideShapes Go.RowKit HSha Go.Proofs.YtpmefpdafkbphaaDoorW.PrintWords Go.Proofs.YtpmefpdafkbphaaDoorW.PrintLast
set_option maxRecDepth 100000
abbrev laids : List (String × DataW Unit) := [("rubrick/sha.words", Rows.laid_rubrick_sha_words)]
theorem named : Tryd.prog.globalNamed "rubrick/sha.words" = some 0 := by kernel_rfl
theorem typed : (Tryd.prog.globals[0]?).map (·.type) = some 116 := by kernel_rfl
theorem cells64 : Tryd.prog.cellsOf 116 = 64 := by kernel_rfl
theorem cells1 : Tryd.prog.cellsOf 100 = 1 := by kernel_rfl
theorem datum {H : Type} : (Rows.laid_rubrick_sha_words : DataW H) = .agg (consts.map fun c => .lit (.int .u32 c)) := rfl
theorem consts_len : consts.length = 64 := rfl
theorem mapM_get {α β : Type} (f : α → Option β) : ∀ (l : List α) (ys : List β), l.mapM f = some ys → ∀ (i : Nat) (x : α), l[i]? = some x → ∃ y, ys[i]? = some y ∧ f x = some y
  | [], ys, h, i, x, hx => by simp at hx
  | a :: r, ys, h, i, x, hx => by
    simp only [List.mapM_cons, Option.bind_eq_bind, Option.bind_eq_some_iff, Option.pure_def, Option.some.injEq] at h; obtain ⟨b, hb, zs, hz, rfl⟩ := h
    cases i with
    | zero =>
      simp only [List.getElem?_cons_zero, Option.some.injEq] at hx; subst hx
      exact ⟨b, rfl, hb⟩
    | succ i =>
      (simp only [List.getElem?_cons_succ] at hx ⊢); exact mapM_get f r zs hz i x hx
theorem int_of_trod {H : Type} {enc : TypeId × Value → H} {P : Program} {w : World} {base : Nat} {sp : Nat → Bool} {held : Bool} {fuel : Nat} {t : TypeId} {k : IntKind} {c : Value} {y : DataW H × List MemPlace}
    (ht : P.underlying t = some (.int k)) (h : DataW.trod enc P w base sp held fuel t [c] = some y) : ∃ n, c = .int k n ∧ y = (.lit (.int k n), []) := by
  cases fuel with
  | zero => simp [DataW.trod] at h
  | succ fuel =>
    cases c <;> simp [DataW.trod, ht] at h
    rename_i k' n
    obtain ⟨⟨rfl, _⟩, rfl⟩ := h; exact ⟨n, rfl, rfl⟩
theorem gw {W : World} (h : laidMet Tryd.prog laids W) : Aside0 (GW W) := by
  obtain ⟨ps, ⟨g, t, cs, fuel, p, q, hg, ht, hvar, hd, _, _⟩, _⟩ := h; obtain rfl := Option.some.inj (named.symm.trans hg); obtain rfl := Option.some.inj (typed.symm.trans ht); (refine ⟨fun j hj => ?_⟩); rw [World.var?_cell hg hvar j]; rw [datum] at hd
  cases fuel with
  | zero => simp [DataW.trod] at hd
  | succ fuel =>
    simp only [DataW.trod, Tryd.underlying116, cells64, cells1] at hd; split at hd
    · rename_i hl
      simp only [Option.map_eq_some_iff, Prod.mk.injEq, DataW.agg.injEq] at hd; obtain ⟨xs, hm, hx, _⟩ := hd; (obtain ⟨y, hy, hf⟩ := mapM_get _ _ _ hm j j (by rw [List.getElem?_range hj])); (have hjl : j < cs.toList.length := by rw [hl]; exact hj)
      have hone : (cs.toList.drop (j * 1)).take 1 = [cs.toList[j]] := by
        rw [Nat.mul_one, List.drop_eq_getElem_cons hjl]; rfl
      rw [hone] at hf; obtain ⟨n, hc, rfl⟩ := int_of_trod Tryd.underlying100 hf; (have h2 : (xs.map (·.1))[j]? = some (.lit (.int .u32 n)) := by rw [List.getElem?_map, hy]; rfl); (rw [hx, List.getElem?_map, List.getElem?_eq_getElem (by rw [consts_len]; exact hj)] at h2); simp only [Option.map_some, Option.some.injEq, DataW.lit.injEq, Lit.int.injEq, true_and] at h2; (rw [← Array.getElem?_toList, List.getElem?_eq_getElem hjl, hc, ← h2, List.getD_eq_getElem?_getD, List.getElem?_eq_getElem (by rw [consts_len]; exact hj)]); rfl
    · cases hd
noncomputable def laidWorld (os : Os) : World :=
  { World.holding Tryd.prog os ⟨#[], #[], []⟩ with heap := (World.holding Tryd.prog os ⟨#[], #[], []⟩).heap.modify 0 fun
      | .cells _ t frozen => .cells (U32 consts) t frozen
      | o => o }
theorem laidWorld_row (os : Os) (args : Array Value) : ((laidWorld os).forCall (fun _ _ => 0) ⟨#[], args, []⟩).memory.heap[0]? = some (.cells (U32 consts) 116 (0, 0)) := by kernel_rfl
theorem met (os : Os) (args : Array Value) : laidMet Tryd.prog laids ((laidWorld os).forCall (fun _ _ => 0) ⟨#[], args, []⟩).memory := by
  refine ⟨_, ⟨0, 116, U32 consts, 8, [], [], named, typed, by kernel_rfl, by kernel_rfl, rfl, rfl⟩, by decide +kernel, fun b off h => ?_⟩
  have h' : b = 0 ∧ off < 64 := by
    have : ∀ x ∈ MemPlace.row ⟨0, 0, none⟩ (U32 consts).size ++ [] ++ [], ∃ o, x = MemPlace.cell 0 o ∧ o < 64 := by
      intro x hx; simp only [List.append_nil, U32_size, consts_len, MemPlace.row, List.mem_map, List.mem_range] at hx; obtain ⟨o, ho, rfl⟩ := hx; (exact ⟨_, rfl, by omega⟩)
    obtain ⟨o, e, ho⟩ := this _ h; injection e with e1 e2; exact ⟨e1, e2 ▸ ho⟩
  obtain ⟨rfl, ho⟩ := h'; (refine ⟨⟨_, _, laidWorld_row os args⟩, fun u v hc => ?_⟩); simp only [World.cell?, laidWorld_row os args] at hc; (simp [U32_get consts off (by rw [consts_len]; exact ho)] at hc)
end Go.Proofs.YtpmefpdafkbphaaDoor.HLaid

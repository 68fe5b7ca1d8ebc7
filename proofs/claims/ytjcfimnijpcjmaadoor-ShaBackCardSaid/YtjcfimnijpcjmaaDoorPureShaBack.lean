/- The law ShaBack in plain Lean. -/
import Derived.Test.YtjcfimnijpcjmaaDoorPShaBack1
import Derived.Test.YtjcfimnijpcjmaaDoorPureK
import Derived.Test.YtjcfimnijpcjmaaDoorPureX
namespace Go.Proofs.YtjcfimnijpcjmaaDoor.Pure
open Go.RowKit Go.Proofs.YtjcfimnijpcjmaaDoor.HSha Go.Proofs.YtjcfimnijpcjmaaDoor.PS Go.Proofs.YtjcfimnijpcjmaaDoor.PX Go.Proofs.YtjcfimnijpcjmaaDoor.PK Go.Proofs.YtjcfimnijpcjmaaDoor.PureS Go.Proofs.YtjcfimnijpcjmaaDoor.PureK Go.Proofs.YtjcfimnijpcjmaaDoor.PureX Go.Proofs.YtjcfimnijpcjmaaDoor.PShaBack Go.Proofs.YtjcfimnijpcjmaaDoorW.PrintWords Go.Proofs.YtjcfimnijpcjmaaDoorW.PrintLast
theorem back_early (d s : ByteArray) : rubricklaw01_ShaBack.j0 5000 d s true = some true := by
  rw [show (5000 : Nat) = 4999 + 1 from rfl]
  simp only [rubricklaw01_ShaBack.j0, if_true]
  rw [knows01U 4999 (by omega)]
  rfl
theorem back_late (d s : ByteArray) (hd : d.size ≤ 1000) (hs : s.size ≤ 1000) : rubricklaw01_ShaBack.j0 5000 d s false = some true := by
  have hk := knows01U 4999 (by omega)
  have hb : ∀ x ∈ bytesOf d, 0 ≤ x ∧ x < 256 := fun x hx => by have := bytes_rng d x hx; omega
  have hx := fromF (strOfNums (hexL (bytesOf d))) (by rw [strOfNums_size, hexL_len, bytesOf_length]; omega) 4999 (by rw [strOfNums_size, hexL_len, bytesOf_length]; omega)
  rw [bytes_str _ (hexL_rng _ hb), fh_hex _ hb] at hx
  simp only [str_bytes] at hx
  rw [show (5000 : Nat) = 4999 + 1 from rfl]
  simp only [rubricklaw01_ShaBack.j0, Bool.false_eq_true, if_false]
  rw [hexF d (by omega) 4999 (by omega)]
  simp only [Option.bind_some]
  rw [hx, fromF s (by omega) 4999 (by omega)]
  cases hf : fh (bytesOf s) with
  | none => simp [hk]
  | some q =>
    obtain ⟨e1, e2⟩ := fh_some _ _ q (Nat.le_refl _) (bytes_rng s) hf
    have hg := gl_len _ (bytesOf s) (Nat.le_refl _)
    rw [e1] at hg
    have hlen : q.length ≤ 1000 := by have := hg.1; rw [bytesOf_length] at this; omega
    have hh := hexF (strOfNums q) (by rw [strOfNums_size]; omega) 4999 (by rw [strOfNums_size]; omega)
    rw [bytes_str _ hg.2, e2, str_bytes] at hh
    simp [hk, hh]
theorem ShaBack : rubricklaw01_ShaBack.Pure := by
  intro d s h1 h2
  refine ⟨5000, ?_⟩
  unfold rubricklaw01_ShaBack.f
  by_cases hd : (d.size : Int) > 1000
  · rw [if_pos hd]; exact back_early _ _
  · rw [if_neg hd]
    by_cases hs : (s.size : Int) > 1000
    · rw [decide_eq_true hs]; exact back_early _ _
    · rw [decide_eq_false hs]; exact back_late _ _ (by omega) (by omega)
end Go.Proofs.YtjcfimnijpcjmaaDoor.Pure

import Derived.Test.YtpmefpdafkbphaaDoorZtPT
namespace Go.Proofs.YtpmefpdafkbphaaDoor.HBytes8
open Go.RowKit HSha PT Go.Proofs.YtpmefpdafkbphaaDoorW.PrintWords Go.Proofs.YtpmefpdafkbphaaDoorW.PrintLast Go.Proofs.YtpmefpdafkbphaaDoorW.PrintMore
def rubrickref08_bytes.f (k : Nat) (a0 a1 : ByteArray) : Option (List Int) := if a0.size + a1.size ≤ 9223372036854775807 then rubrickref03_Bytes.f k 1 (bytesOf (a0 ++ a1)) else none
theorem rubrickref08_bytes.mono (a0 a1 : ByteArray) : ∀ k, LeO (rubrickref08_bytes.f k a0 a1) (rubrickref08_bytes.f (k + 1) a0 a1) := by
  intro k; unfold rubrickref08_bytes.f; split
  · exact rubrickref03_Bytes.mono _ _ _
  · exact LeO.refl _
set_option maxHeartbeats 4000000 in
theorem rubrickref08_bytes.calls (k : Nat) (a0 a1 : ByteArray) (r : List Int) (w : World) (h : rubrickref08_bytes.f k a0 a1 = some r) :
    Calls Tryd.prog 65 #[.string a0, .string a1] w fun e w' => ∃ v0_ : Value, e = .returned (v0_) ∧ Kd.R (Kd.int .u8) 5 w' w.heap.size (fun _ => True) v0_ r ∧ Below w.heap.size w w' := by
  unfold rubrickref08_bytes.f at h; split at h
  · next hs =>
    (have hl : (a0 ++ a1).size ≤ 9223372036854775807 := by rw [ByteArray.size_append]; exact hs); (have hs2 : ¬ 9223372036854775807 < a0.size + a1.size := by omega); have H := Aside0.mk h; clear h; (have kb := fun W => print_bytes (P := Tryd.prog) 9 41 5 Tryd.underlying9 Tryd.underlying41 Tryd.underlying5 (a0 ++ a1) W); have hc := Aside0.mk (bytes_reads w 5 (a0 ++ a1) hl); rw [← bytesOf_length] at hl kb hc; have hb := Aside0.mk (bytes_below (Below.refl w.heap.size w) (Nat.le_refl _) 5 (a0 ++ a1)); go_enter Tryd.func65, Tryd.ntmps65; (go_wp2_with (first | (go_at_call 41; refine (rubrickref03_Bytes.calls k 1 _ _ (bytesOf (a0 ++ a1)) r _ (Kd.C_of_reads (d := (0 : Int)) (h1 := fun _ => rfl) hc.out) (grownCap_ge _ _ _ _) H.out).mono ?_; rintro e w1 ⟨v, rfl, ho, hb1⟩; have HO := Aside0.mk (Kd.R_lower ho (below_size hb.out)); have HB := Aside0.mk (below_step hb.out hb1)))); go_ret; exact ⟨_, rfl, HO.out, HB.out⟩
  · cases h
end Go.Proofs.YtpmefpdafkbphaaDoor.HBytes8

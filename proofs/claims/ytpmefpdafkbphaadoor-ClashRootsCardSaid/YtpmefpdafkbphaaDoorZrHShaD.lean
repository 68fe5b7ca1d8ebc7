import Derived.Test.YtpmefpdafkbphaaDoorZrHShaC
namespace Go.Proofs.YtpmefpdafkbphaaDoor.HSha
open Go.RowKit Go.Proofs.YtpmefpdafkbphaaDoorW.PrintWords Go.Proofs.YtpmefpdafkbphaaDoorW.PrintLast Go.Proofs.YtpmefpdafkbphaaDoorW.PrintMore
set_option linter.unusedVariables false
set_option linter.unusedSimpArgs false
@[irreducible] def sha_Sum.f (l0 : List Int) : Option ByteArray := if l0.length ≤ 1099511627776 then some (shaSum l0) else none
theorem sha_Sum.calls (A0 : Option Addr) (c0 : Nat) (l0 : List Int) (r : ByteArray) (w : World) (hG_ : Aside0 (GW w)) (hr0 : Kd.C (Kd.int .u8) w A0 l0.length l0) (hc0 : l0.length ≤ c0) (h : sha_Sum.f l0 = some r) :
    Calls Tryd.prog 51 #[.slice A0 l0.length c0] w fun e w' => e = .returned (.string r) ∧ Below w.heap.size w w' := by
  unfold sha_Sum.f at h
  split at h
  · next hl =>
    injection h with h
    subst h
    exact sum_walk A0 c0 l0 w hG_ hr0 hc0 hl
  · cases h
def vof (a0 a1 a2 a3 a4 a5 a6 a7 : Int) : V8 := ⟨a0, a1, a2, a3, a4, a5, a6, a7⟩
def endOf (v : V8) (l : List Int) (N : Int) : ByteArray := if rightB l.length N then endS v l N else endS init [] 0
@[irreducible] def sha_End.f (a0 a1 a2 a3 a4 a5 a6 a7 : Int) (l : List Int) (N : Int) : Option ByteArray := some (endOf (vof a0 a1 a2 a3 a4 a5 a6 a7) l N)
theorem sha_End.calls (a0 a1 a2 a3 a4 a5 a6 a7 : Int) (A8 : Option Addr) (c8 : Nat) (l8 : List Int) (N : Int) (r : ByteArray) (w : World) (hG_ : Aside0 (GW w)) (hr0 : Kd.C (Kd.int .u8) w A8 l8.length l8) (hc0 : l8.length ≤ c8) (h : sha_End.f a0 a1 a2 a3 a4 a5 a6 a7 l8 N = some r) :
    Calls Tryd.prog 80 #[.agg #[.int .u32 a0, .int .u32 a1, .int .u32 a2, .int .u32 a3, .int .u32 a4, .int .u32 a5, .int .u32 a6, .int .u32 a7, .slice A8 l8.length c8, .int .i64 N]] w fun e w' => e = .returned (.string r) ∧ Below w.heap.size w w' := by
  unfold sha_End.f at h
  injection h with h
  subst h
  unfold endOf
  cases hR : rightB l8.length N
  · exact end_reset (vof a0 a1 a2 a3 a4 a5 a6 a7) A8 c8 l8 N w hG_ hr0 hc0 hR
  · exact end_walk (vof a0 a1 a2 a3 a4 a5 a6 a7) A8 c8 l8 N w hG_ hr0 hc0 hR
/-- What Add answers: the words and what is left; the number. -/
def addOf (v : V8) (l : List Int) (N : Int) (b : List Int) : (V8 × List Int) × Int := if addOk l N b.length then (absorbs v (l ++ b), N + b.length) else (absorbs init b, (b.length : Int))
def flat (x : (V8 × List Int) × Int) : Int × Int × Int × Int × Int × Int × Int × Int × List Int × Int := (x.1.1.a, x.1.1.b, x.1.1.c, x.1.1.d, x.1.1.e, x.1.1.f, x.1.1.g, x.1.1.h, x.1.2, x.2)
@[irreducible] def sha_Add.f (a0 a1 a2 a3 a4 a5 a6 a7 : Int) (l : List Int) (N : Int) (b : List Int) : Option (Int × Int × Int × Int × Int × Int × Int × Int × List Int × Int) :=
  if l.length + b.length < 140737488355328 then some (flat (addOf (vof a0 a1 a2 a3 a4 a5 a6 a7) l N b)) else none
theorem sha_Add.calls (a0 a1 a2 a3 a4 a5 a6 a7 : Int) (A8 : Option Addr) (c8 : Nat) (l8 : List Int) (N : Int) (A1 : Option Addr) (c1 : Nat) (l1 : List Int) (r1 r2 r3 r4 r5 r6 r7 r8 : Int) (r9 : List Int) (r10 : Int) (w : World) (hG_ : Aside0 (GW w))
    (hr0 : Kd.C (Kd.int .u8) w A8 l8.length l8) (hc0 : l8.length ≤ c8) (hr1 : Kd.C (Kd.int .u8) w A1 l1.length l1) (hc1 : l1.length ≤ c1) (h : sha_Add.f a0 a1 a2 a3 a4 a5 a6 a7 l8 N l1 = some (r1, r2, r3, r4, r5, r6, r7, r8, r9, r10)) :
    Calls Tryd.prog 81 #[.agg #[.int .u32 a0, .int .u32 a1, .int .u32 a2, .int .u32 a3, .int .u32 a4, .int .u32 a5, .int .u32 a6, .int .u32 a7, .slice A8 l8.length c8, .int .i64 N], .slice A1 l1.length c1] w fun e w' => ∃ v8_ : Value, e = .returned (.agg #[.int .u32 r1, .int .u32 r2, .int .u32 r3, .int .u32 r4, .int .u32 r5, .int .u32 r6, .int .u32 r7, .int .u32 r8, v8_, .int .i64 r10]) ∧ Kd.R (Kd.int .u8) 5 w' w.heap.size (fun _ => True) v8_ r9 ∧ Below w.heap.size w w' := by
  unfold sha_Add.f at h
  split at h
  · next hl =>
    injection h with h
    unfold flat addOf at h
    split at h
    · next hok =>
      simp only [Prod.mk.injEq] at h
      obtain ⟨rfl, rfl, rfl, rfl, rfl, rfl, rfl, rfl, rfl, rfl⟩ := h
      exact add_walk (vof a0 a1 a2 a3 a4 a5 a6 a7) A8 c8 l8 N A1 c1 l1 w hG_ hr0 hc0 hr1 hc1 hl hok
    · next hok =>
      simp only [Prod.mk.injEq] at h
      obtain ⟨rfl, rfl, rfl, rfl, rfl, rfl, rfl, rfl, rfl, rfl⟩ := h
      exact add_reset (vof a0 a1 a2 a3 a4 a5 a6 a7) A8 c8 l8 N A1 c1 l1 w hG_ hr0 hc0 hr1 hc1 (by omega) (by simpa using hok)
  · cases h
end Go.Proofs.YtpmefpdafkbphaaDoor.HSha

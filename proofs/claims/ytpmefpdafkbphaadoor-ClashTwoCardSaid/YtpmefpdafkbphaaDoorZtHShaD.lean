import Derived.Test.YtpmefpdafkbphaaDoorZtHShaC
namespace Go.Proofs.YtpmefpdafkbphaaDoor.HSha
open Go.RowKit Go.Proofs.YtpmefpdafkbphaaDoorW.PrintWords Go.Proofs.YtpmefpdafkbphaaDoorW.PrintLast Go.Proofs.YtpmefpdafkbphaaDoorW.PrintMore
set_option linter.unusedVariables false
set_option linter.unusedSimpArgs false
@[irreducible] def sha_Sum.f (l0 : List Int) : Option ByteArray := if l0.length ≤ 1099511627776 then some (shaSum l0) else none
theorem sha_Sum.calls (A0 : Option Addr) (c0 : Nat) (l0 : List Int) (r : ByteArray) (w : World) (hG_ : Aside0 (GW w)) (hr0 : Kd.C (Kd.int .u8) w A0 l0.length l0) (hc0 : l0.length ≤ c0) (h : sha_Sum.f l0 = some r) :
    Calls Tryd.prog 51 #[.slice A0 l0.length c0] w fun e w' => e = .returned (.string r) ∧ Below w.heap.size w w' := by
  unfold sha_Sum.f at h; split at h
  · next hl =>
    injection h with h; subst h; exact sum_walk A0 c0 l0 w hG_ hr0 hc0 hl
  · cases h
end Go.Proofs.YtpmefpdafkbphaaDoor.HSha

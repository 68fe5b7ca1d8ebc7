import Derived.Test.YtpmefpdafkbphaaDoorZfPQ1
import Derived.Test.YtpmefpdafkbphaaDoorZfPQ2
import Derived.Test.YtpmefpdafkbphaaDoorZfPQ4
namespace Go.Proofs.YtpmefpdafkbphaaDoor.PQ
open HZ Go.RowKit HSha PS PR PT PB HNode PC HBytes8 Go.Proofs.YtpmefpdafkbphaaDoorW.PrintWords Go.Proofs.YtpmefpdafkbphaaDoorW.PrintLast Go.Proofs.YtpmefpdafkbphaaDoorW.PrintMore
attribute [local go_sem] max2_int min2_int max_two min_two max_three min_three max_four min_four
set_option linter.unusedVariables false
set_option linter.unusedSimpArgs false
def rubricklaw08_Great.l0 : Nat → List (List Int) → Int → Option (Bool)
 | 0, _, _ => none
 | k + 1, x0, x3 => if x3 < (x0.length : Int) then (if 0 ≤ x3 then (if ((rd_L2 x0 x3).length : Int) > 300 then (some true) else (rubricklaw08_Great.l0 k x0 (wrap64 (x3 + 1)))) else (none)) else (some (decide ((x0.length : Int) > 25)))
def rubricklaw08_Great.f (k : Nat) (l0 : List (List Int)) : Option (Bool) := rubricklaw08_Great.l0 k l0 0
set_option maxHeartbeats 8000000 in
set_option maxRecDepth 100000 in
theorem rubricklaw08_Great.calls (k : Nat) (A0 : Option Addr) (c0 : Nat) (l0 : List (List Int)) (r : Bool) (w : World) (hr0 : Kd.C (Kd.slice 5 (Kd.int .u8)) w A0 l0.length l0) (hc0 : l0.length ≤ c0) (h : rubricklaw08_Great.f k l0 = some r) :
  Calls Tryd.prog 25 #[.slice A0 l0.length c0] w fun e w' => e = .returned (.bool r) ∧ Drawn0 w w' := by
 have HR0 := Aside0.mk hr0
 have HC0 := Aside0.mk hc0
 clear hr0 hc0
 have H : (rubricklaw08_Great.l0 k l0 0) = some r := h
 clear h
 have H' := Aside0.mk H
 clear H
 go_enter Tryd.func25, Tryd.ntmps25
 go_wp2
 go_loopg [3] k (fun kq v3 w' => ∃ (x3_1 : Int), v3 = .int .i64 x3_1 ∧ Aside0 (rubricklaw08_Great.l0 kq l0 x3_1 = some r) ∧ Aside0 (kq ≤ k) ∧ Drawn0 w w')
 case atStart => exact ⟨(0), zz, H', ⟨Nat.le_refl _⟩, by repeat (first | exact Drawn0.refl _ | apply Drawn0.step)⟩
 case round =>
  clear H'; obtain ⟨x3_1, rfl, HA, HK1, ⟨m1, rfl⟩⟩ := hrel
  cases gk with
  | zero => exact absurd HA.out (by simp [rubricklaw08_Great.l0])
  | succ k1 =>
   have H := HA.out; clear HA; simp only [rubricklaw08_Great.l0] at H
   by_cases c2 : x3_1 < (l0.length : Int)
   ·rw [if_pos c2] at H
    have c2b0 : decide (x3_1 < (l0.length : Int)) = true := decide_eq_true c2; clear c2
    by_cases c3 : 0 ≤ x3_1
    ·rw [if_pos c3] at H
     have c3b0 : decide (0 ≤ x3_1) = true := decide_eq_true c3; clear c3
     by_cases c4 : ((rd_L2 l0 x3_1).length : Int) > 300
     ·rw [if_pos c4] at H
      have c4b0 : decide (300 < ((rd_L2 l0 x3_1).length : Int)) = true := decide_eq_true c4; (have c4b1 : decide (300 < (rd_L2 l0 x3_1).length) = true := decide_eq_true (by omega)); clear c4; obtain rfl := Option.some.inj H; have p432 : 0 ≤ (x3_1 : Int) := of_decide_eq_true za; have q432 : x3_1 < (l0.length : Int) := of_decide_eq_true za; obtain ⟨ad432, A432_0, c432_0, e432, hx432_0, hl432_0, hi432_0⟩ := at_L2 HR0.out x3_1 p432 q432; cases e432; have HR432_0 := Aside0.mk hi432_0; have HC432_0 := Aside0.mk hl432_0; clear hi432_0 hl432_0; replace p432 := eq_true p432; replace q432 := eq_true q432; go_wp2; go_ret; (exact ⟨by first | rfl | (simp; done) | (simp [*]; done), by repeat (first | exact Drawn0.refl _ | apply Drawn0.step)⟩)
     ·rw [if_neg c4] at H
      have c4b0 : decide (300 < ((rd_L2 l0 x3_1).length : Int)) = false := decide_eq_false c4; (have c4b1 : decide (300 < (rd_L2 l0 x3_1).length) = false := decide_eq_false (by omega)); clear c4; have H' := Aside0.mk H; clear H; have p432 : 0 ≤ (x3_1 : Int) := of_decide_eq_true za; have q432 : x3_1 < (l0.length : Int) := of_decide_eq_true za; obtain ⟨ad432, A432_0, c432_0, e432, hx432_0, hl432_0, hi432_0⟩ := at_L2 HR0.out x3_1 p432 q432; cases e432; have HR432_0 := Aside0.mk hi432_0; have HC432_0 := Aside0.mk hl432_0; clear hi432_0 hl432_0; replace p432 := eq_true p432; replace q432 := eq_true q432; go_wp2; go_roundg k1
      case measure => have := HK1.out; omega
      case rel => exact ⟨(wrap64 (x3_1 + 1)), zz, H', ⟨by have := HK1.out; omega⟩, by repeat (first | exact Drawn0.refl _ | apply Drawn0.step)⟩
    ·rw [if_neg c3] at H
     exact absurd H (by simp)
   ·rw [if_neg c2] at H
    have c2b0 : decide (x3_1 < (l0.length : Int)) = false := decide_eq_false c2; clear c2; obtain rfl := Option.some.inj H; go_wp2; go_ret; (exact ⟨by first | rfl | (simp; done) | (simp [*]; done), by repeat (first | exact Drawn0.refl _ | apply Drawn0.step)⟩)
end Go.Proofs.YtpmefpdafkbphaaDoor.PQ

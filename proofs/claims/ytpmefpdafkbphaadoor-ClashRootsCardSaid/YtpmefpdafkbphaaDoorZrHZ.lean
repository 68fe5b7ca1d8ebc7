import Derived.Test.YtpmefpdafkbphaaDoorZrWWords
import Derived.Test.YtpmefpdafkbphaaDoorZrWLast
import Derived.Test.YtpmefpdafkbphaaDoorZrWMore
import Derived.Below
namespace Go.Proofs.YtpmefpdafkbphaaDoor.HZ
open Go.RowKit Go.Proofs.YtpmefpdafkbphaaDoorW.PrintWords Go.Proofs.YtpmefpdafkbphaaDoorW.PrintLast Go.Proofs.YtpmefpdafkbphaaDoorW.PrintMore
set_option linter.unusedVariables false
theorem zr {Q P : Prop} (q : Q) (h : Q → P := by intro q_; (with_reducible repeat (first | apply Kd.R_alloc | apply Kd.R_drewN | apply Kd.R_drew)); exact q_) : P := h q
theorem zk {Q P : Prop} (q : Q) (h : Q → P := by intro q_; (with_reducible repeat (first | refine blk_drewN ?_ _ | refine blk_drew ?_ | refine blk_alloc ?_ _)); exact q_) : P := h q
theorem zc {Q P : Prop} (q : Q) (h : Q → P := by intro q_; repeat (first | exact q_ | (with_reducible refine Kd.C_alloc ?_ _) | (with_reducible refine Kd.C_drewN ?_ _) | (with_reducible refine Kd.C_drew ?_))) : P := h q
theorem zb {Q P : Prop} (q : Q) (h : Q → P := by intro q_; repeat (first | (with_reducible first | exact q_ | apply below_alloc | apply pw_below_drewN | apply below_drew1) | exact q_)) : P := h q
theorem zb1 {Q G P : Prop} (q : Q) (g : G) (h : Q → G → P := by intro q_ g_; repeat (first | (with_reducible first | exact q_ | apply below_alloc | apply pw_below_drewN | apply below_drew1 | refine below_set ?_ g_) | exact q_)) : P := h q g
theorem zb2 {Q G G2 P : Prop} (q : Q) (g : G) (g2 : G2) (h : Q → G → G2 → P := by intro q_ g_ g2_; repeat (first | (with_reducible first | exact q_ | apply below_alloc | apply pw_below_drewN | apply below_drew1 | refine below_set ?_ g_ | refine below_set ?_ g2_) | exact q_)) : P := h q g g2
theorem zb3 {Q G G2 G3 P : Prop} (q : Q) (g : G) (g2 : G2) (g3 : G3) (h : Q → G → G2 → G3 → P := by intro q_ g_ g2_ g3_; repeat (first | (with_reducible first | exact q_ | apply below_alloc | apply pw_below_drewN | apply below_drew1 | refine below_set ?_ g_ | refine below_set ?_ g2_ | refine below_set ?_ g3_) | exact q_)) : P := h q g g2 g3
theorem zm {P : Prop} (h : P := by (try simp only [List.map_toArray, List.map_cons, List.map_nil]); first | done | rfl | (simp only [List.length_drop, List.length_take]; rfl)) : P := h
section
variable {α : Type} {d : Kd α} {e base : Nat} {w W w0 w1 : World} {ok : Nat → Prop} {v : Value} {xs : List α}
theorem zR (h : Aside0 (d.R e w0 base ok v xs)) (hb : Below W.heap.size W w1) (hs : d.R e w0 base ok v xs → d.R e W base ok v xs := by intro q_; (with_reducible repeat (first | apply Kd.R_alloc | apply Kd.R_drewN | apply Kd.R_drew)); exact q_) : Aside0 (d.R e w1 base ok v xs) := ⟨Kd.R_below (hs h.out) hb⟩
theorem zK {g : Nat} {o : Obj} (h : Aside0 (w0.heap[g]? = some o)) (hb : Below W.heap.size W w1) (hs : w0.heap[g]? = some o → W.heap[g]? = some o := by intro q_; (with_reducible repeat (first | refine blk_drewN ?_ _ | refine blk_drew ?_ | refine blk_alloc ?_ _)); exact q_) : Aside0 (w1.heap[g]? = some o) := ⟨blk_below (hs h.out) hb⟩
theorem zS (h : Aside0 (Below w.heap.size w w0)) (hb : Below W.heap.size W w1) (hs : Below w.heap.size w w0 → Below w.heap.size w W := by intro q_; repeat (first | (with_reducible first | exact q_ | apply below_alloc | apply pw_below_drewN | apply below_drew1) | exact q_)) : Aside0 (Below w.heap.size w w1) := ⟨below_step (hs h.out) hb⟩
theorem zS1 {G : Prop} (h : Aside0 (Below w.heap.size w w0)) (g : Aside0 G) (hb : Below W.heap.size W w1) (hs : Below w.heap.size w w0 → G → Below w.heap.size w W := by intro q_ g_; repeat (first | (with_reducible first | exact q_ | apply below_alloc | apply pw_below_drewN | apply below_drew1 | refine below_set ?_ g_) | exact q_)) : Aside0 (Below w.heap.size w w1) := ⟨below_step (hs h.out g.out) hb⟩
theorem zS2 {G G2 : Prop} (h : Aside0 (Below w.heap.size w w0)) (g : Aside0 G) (g2 : Aside0 G2) (hb : Below W.heap.size W w1) (hs : Below w.heap.size w w0 → G → G2 → Below w.heap.size w W := by intro q_ g_ g2_; repeat (first | (with_reducible first | exact q_ | apply below_alloc | apply pw_below_drewN | apply below_drew1 | refine below_set ?_ g_ | refine below_set ?_ g2_) | exact q_)) : Aside0 (Below w.heap.size w w1) := ⟨below_step (hs h.out g.out g2.out) hb⟩
theorem zL (r : d.R e w1 W.heap.size ok v xs) (h : Aside0 (Below w.heap.size w w0)) (hs : Below w.heap.size w w0 → Below w.heap.size w W := by intro q_; repeat (first | (with_reducible first | exact q_ | apply below_alloc | apply pw_below_drewN | apply below_drew1) | exact q_)) : Aside0 (d.R e w1 w.heap.size ok v xs) := ⟨Kd.R_lower r (below_size (hs h.out))⟩
theorem zL1 {G : Prop} (r : d.R e w1 W.heap.size ok v xs) (h : Aside0 (Below w.heap.size w w0)) (g : Aside0 G) (hs : Below w.heap.size w w0 → G → Below w.heap.size w W := by intro q_ g_; repeat (first | (with_reducible first | exact q_ | apply below_alloc | apply pw_below_drewN | apply below_drew1 | refine below_set ?_ g_) | exact q_)) : Aside0 (d.R e w1 w.heap.size ok v xs) := ⟨Kd.R_lower r (below_size (hs h.out g.out))⟩
end
end Go.Proofs.YtpmefpdafkbphaaDoor.HZ

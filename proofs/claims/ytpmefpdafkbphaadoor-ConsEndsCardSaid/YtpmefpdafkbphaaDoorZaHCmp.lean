import Derived.Test.YtpmefpdafkbphaaDoorZaWWords
namespace Go.Proofs.YtpmefpdafkbphaaDoor.HCmp
open Go.RowKit Go.Proofs.YtpmefpdafkbphaaDoorW.PrintWords
section
variable {α : Type} {d : Kd α} {e base : Nat} {w W w0 w1 : World} {ok : Nat → Prop} {v : Value} {xs : List α}
theorem rB (h : d.R e w0 base ok v xs) (hb : Below W.heap.size W w1) (hs : Below w0.heap.size w0 W := by repeat (first | exact Below.refl _ _ | apply below_alloc | apply pw_below_drewN | apply below_drew1)) : d.R e w1 base ok v xs := Kd.R_below (Kd.R_below h hs) hb
theorem bS (h : Below w.heap.size w w0) (hb : Below W.heap.size W w1) (hs : Below w0.heap.size w0 W := by repeat (first | exact Below.refl _ _ | apply below_alloc | apply pw_below_drewN | apply below_drew1)) : Below w.heap.size w w1 := below_step (below_step h hs) hb
theorem kB {g : Nat} {o : Obj} (h : w0.heap[g]? = some o) (hb : Below W.heap.size W w1) (hs : Below w0.heap.size w0 W := by repeat (first | exact Below.refl _ _ | apply below_alloc | apply pw_below_drewN | apply below_drew1)) : w1.heap[g]? = some o := blk_below (blk_below h hs) hb
end
end Go.Proofs.YtpmefpdafkbphaaDoor.HCmp

import Derived.Test.YtpmefpdafkbphaaDoorProg
import Derived.StillTailTactics
import Derived.BigRegion
import Derived.Lib.Hide
import Derived.Outline
import Derived.IntWalk
import Derived.Test.YtpmefpdafkbphaaDoorZtWWords
import Derived.Test.YtpmefpdafkbphaaDoorZtHReg
namespace Go.Proofs.YtpmefpdafkbphaaDoor.HSha
open Go.RowKit Go.Proofs.YtpmefpdafkbphaaDoorW.PrintWords Go.Proofs.YtpmefpdafkbphaaDoorW.PrintLast HReg
set_option linter.unusedVariables false
set_option linter.unusedSimpArgs false
def Blk (w : World) (g : Nat) (t : TypeId) (cs : Array Value) : Prop := w.heap[g]? = some (.cells cs t (0, 0))
section
variable {w w' : World} {g : Nat} {t : TypeId} {cs : Array Value}
theorem Blk.lt (h : Blk w g t cs) : g < w.heap.size := by
  rcases Nat.lt_or_ge g w.heap.size with hlt | hge
  · exact hlt
  · unfold Blk at h; rw [Array.getElem?_eq_none hge] at h; cases h
theorem Blk.cell (h : Blk w g t cs) (i : Nat) : w.cell? ⟨g, i, none⟩ = cs[i]? := cell_of_row w g i cs t (0, 0) h
theorem Blk.frozen (h : Blk w g t cs) (i : Nat) : w.frozen? ⟨g, i, none⟩ = false := by
  unfold Blk at h; simp [World.frozen?, h]
theorem Blk.new (w : World) (t : TypeId) (cs : Array Value) : Blk (w.alloc (.cells cs t)) w.heap.size t cs := heap_alloc_new w _
theorem Blk.new_ {n : Nat} (w : World) (t : TypeId) (cs : Array Value) (hn : w.heap.size = n) : Blk (w.alloc (.cells cs t)) n t cs := by
  subst hn; exact heap_alloc_new w _
theorem Blk.drew (h : Blk w g t cs) : Blk w.drew g t cs := h
theorem Blk.drewN (h : Blk w g t cs) (n : Nat) : Blk (w.drewN n) g t cs := h
theorem Blk.alloc (h : Blk w g t cs) (o : Obj) : Blk (w.alloc o) g t cs := (Below.heap_alloc w o g h.lt).trans h
theorem Blk.set_ (h : Blk w g t cs) (i : Nat) (u : Value) : Blk (w.setCell ⟨g, i, none⟩ u) g t (cs.setIfInBounds i u) := by
  (unfold Blk at h ⊢); simp [World.setCell, Array.getElem?_modify, h]
theorem Blk.far (h : Blk w g t cs) {p : Addr} (hp : g ≠ p.block) (u : Value) : Blk (w.setCell p u) g t cs := (Below.heap_setCell w p u g hp).trans h
theorem Blk.below {B : Nat} (h : Blk w g t cs) (hb : Below B w w') (hg : g < B) : Blk w' g t cs := (hb.block g hg).trans h
end
def Has (w : World) (g : Nat) (t : TypeId) (n : Nat) : Prop := ∃ cs : Array Value, cs.size = n ∧ Blk w g t cs
theorem Has.drewN {w : World} {g : Nat} {t : TypeId} {n : Nat} (h : Has w g t n) (m : Nat) : Has (w.drewN m) g t n := h
theorem Has.set_ {w : World} {g : Nat} {t : TypeId} {n : Nat} (h : Has w g t n) (i : Nat) (u : Value) : Has (w.setCell ⟨g, i, none⟩ u) g t n := by
  obtain ⟨cs, hs, hb⟩ := h; (exact ⟨_, by simpa using hs, hb.set_ i u⟩)
def U32 (xs : List Int) : Array Value := (xs.map fun x => Value.int .u32 x).toArray
theorem U32_size (xs : List Int) : (U32 xs).size = xs.length := by simp [U32]
theorem U32_one (xs : List Int) : (U32 xs).all (·.oneCell') = true := by simp [U32, Value.oneCell']
theorem U32_get (xs : List Int) (i : Nat) (h : i < xs.length) : (U32 xs)[i]? = some (.int .u32 (xs.getD i 0)) := by
  simp [U32, List.getElem?_map, List.getElem?_eq_getElem h, List.getD_eq_getElem?_getD]
theorem U32_set (xs : List Int) (i : Nat) (y : Int) : (U32 xs).setIfInBounds i (.int .u32 y) = U32 (xs.set i y) := by
  simp [U32, List.map_set]
theorem add_pos_ (a : Addr) (n : Nat) (h : 0 < n) : a.add n = ⟨a.block, a.off + n, none⟩ := by
  unfold Addr.add; (rw [if_neg (by omega)])
def turn (x n : Int) : Int := Go.bits .or .u32 (x / 2 ^ n.toNat) (x * 2 ^ (32 - n).toNat % 4294967296)
set_option maxHeartbeats 800000 in
theorem turn_any (x n : Int) (w : World) (h0 : 0 ≤ n) (h1 : n ≤ 32) :
    Calls Tryd.prog 95 #[.int .u32 x, .int .i64 n] w fun e w' => e = .returned (.int .u32 (turn x n)) ∧ ∃ nd, w' = w.drewN nd := by
  (have h2 : (0 : Int) ≤ 32 - n := by omega); (have h3 : (32 : Int) - n ≤ 32 := by omega); go_enter Tryd.func95, Tryd.ntmps95; go_wp2; go_quiet (fail); go_wp2; go_ret; exact ⟨rfl, _, rfl⟩
def word (bs : List Int) (i : Int) : Int := Go.bits .or .u32 (Go.bits .or .u32 (Go.bits .or .u32 (rd bs (4 * i) % 4294967296 * 16777216 % 4294967296) (rd bs (4 * i + 1) % 4294967296 * 65536 % 4294967296)) (rd bs (4 * i + 2) % 4294967296 * 256 % 4294967296)) (rd bs (4 * i + 3) % 4294967296)
def fill (bs : List Int) : Nat → List Int
  | 0 => List.replicate 64 0
  | k + 1 => (fill bs k).set k (word bs k)
def next (a x b y : Int) : Int := (a + Go.bits .xor .u32 (Go.bits .xor .u32 (turn x 7) (turn x 18)) (x / 8) + b + Go.bits .xor .u32 (Go.bits .xor .u32 (turn y 17) (turn y 19)) (y / 1024)) % 4294967296
def sch (bs : List Int) : Nat → List Int
  | 0 => fill bs 16
  | k + 1 => (sch bs k).set (16 + k) (next ((sch bs k).getD k 0) ((sch bs k).getD (k + 1) 0) ((sch bs k).getD (k + 9) 0) ((sch bs k).getD (k + 14) 0))
def consts : List Int := [1116352408, 1899447441, 3049323471, 3921009573, 961987163, 1508970993, 2453635748, 2870763221, 3624381080, 310598401, 607225278, 1426881987, 1925078388, 2162078206, 2614888103, 3248222580, 3835390401, 4022224774, 264347078, 604807628, 770255983, 1249150122, 1555081692, 1996064986, 2554220882, 2821834349, 2952996808, 3210313671, 3336571891, 3584528711, 113926993, 338241895, 666307205, 773529912, 1294757372, 1396182291, 1695183700, 1986661051, 2177026350, 2456956037, 2730485921, 2820302411, 3259730800, 3345764771, 3516065817, 3600352804, 4094571909, 275423344, 430227734, 506948616, 659060556, 883997877, 958139571, 1322822218, 1537002063, 1747873779, 1955562222, 2024104815, 2227730452, 2361852424, 2428436474, 2756734187, 3204031479, 3329325298]
def tee (e f g h c x : Int) : Int := h + Go.bits .xor .u32 (Go.bits .xor .u32 (turn e 6) (turn e 11)) (turn e 25) + Go.bits .xor .u32 (Go.bits .and .u32 e f) (Go.bits .and .u32 (Go.bits .xor .u32 4294967295 e) g) + c + x
def you (a b c : Int) : Int := Go.bits .xor .u32 (Go.bits .xor .u32 (turn a 2) (turn a 13)) (turn a 22) + Go.bits .xor .u32 (Go.bits .xor .u32 (Go.bits .and .u32 a b) (Go.bits .and .u32 a c)) (Go.bits .and .u32 b c)
structure V8 where
  a : Int
  b : Int
  c : Int
  d : Int
  e : Int
  f : Int
  g : Int
  h : Int
def V8.list (v : V8) : List Int := [v.a, v.b, v.c, v.d, v.e, v.f, v.g, v.h]
def rnd (ws : List Int) (v : V8) (i : Nat) : V8 :=
  ⟨(tee v.e v.f v.g v.h (consts.getD i 0) (ws.getD i 0) + you v.a v.b v.c) % 4294967296, v.a, v.b, v.c, (v.d + tee v.e v.f v.g v.h (consts.getD i 0) (ws.getD i 0)) % 4294967296, v.e, v.f, v.g⟩
def rnds (ws : List Int) (v : V8) : Nat → V8
  | 0 => v
  | k + 1 => rnd ws (rnds ws v k) k
def V8.add (v u : V8) : V8 := ⟨(v.a + u.a) % 4294967296, (v.b + u.b) % 4294967296, (v.c + u.c) % 4294967296, (v.d + u.d) % 4294967296, (v.e + u.e) % 4294967296, (v.f + u.f) % 4294967296, (v.g + u.g) % 4294967296, (v.h + u.h) % 4294967296⟩
def sumTo (v u : V8) (k : Nat) : V8 :=
  ⟨if 0 < k then (v.a + u.a) % 4294967296 else v.a, if 1 < k then (v.b + u.b) % 4294967296 else v.b, if 2 < k then (v.c + u.c) % 4294967296 else v.c, if 3 < k then (v.d + u.d) % 4294967296 else v.d,
   if 4 < k then (v.e + u.e) % 4294967296 else v.e, if 5 < k then (v.f + u.f) % 4294967296 else v.f, if 6 < k then (v.g + u.g) % 4294967296 else v.g, if 7 < k then (v.h + u.h) % 4294967296 else v.h⟩
def mix (v : V8) (bs : List Int) : V8 := v.add (rnds (sch bs 48) v 64)
theorem fill_len (bs : List Int) : ∀ k, (fill bs k).length = 64
  | 0 => by simp [fill]
  | k + 1 => by simp [fill, fill_len bs k]
theorem sch_len (bs : List Int) : ∀ k, (sch bs k).length = 64
  | 0 => fill_len bs 16
  | k + 1 => by simp [sch, sch_len bs k]
def GW (w : World) : Prop := ∀ j : Nat, j < 64 → w.cell? ⟨0, j, none⟩ = some (.int .u32 (consts.getD j 0))
theorem GW.below {w w' : World} (h : GW w) (hb : Below w.heap.size w w') : GW w' := fun j hj => pw_cell_below hb (h j hj)
structure Fill (w : World) (v : V8) (bs : List Int) (ad : Addr) (ws : List Int) (wr : World) : Prop where
  len : ws.length = 64
  b1 : Blk wr w.heap.size 101 (U32 v.list)
  b2 : Blk wr (w.heap.size + 1) 101 (U32 [0, 0, 0, 0, 0, 0, 0, 0])
  b3 : Blk wr (w.heap.size + 1 + 1) 116 (U32 ws)
  size : wr.heap.size = w.heap.size + 1 + 1 + 1
  below : Below w.heap.size w wr
theorem Fill.drewN {w : World} {v : V8} {bs : List Int} {ad : Addr} {ws : List Int} {wr : World} (F : Fill w v bs ad ws wr) (n : Nat) : Fill w v bs ad ws (wr.drewN n) :=
  ⟨F.len, F.b1, F.b2, F.b3, F.size, pw_below_drewN F.below n⟩
theorem Fill.set_ {w : World} {v : V8} {bs : List Int} {ad : Addr} {ws : List Int} {wr : World} (F : Fill w v bs ad ws wr) (k : Nat) (y : Int) : Fill w v bs ad (ws.set k y) (wr.setCell ⟨w.heap.size + 1 + 1, k, none⟩ (.int .u32 y)) :=
  ⟨by simp [F.len], F.b1.far (by simp; omega) _, F.b2.far (by simp) _, by rw [← U32_set]; exact F.b3.set_ k _, by rw [← F.size]; simp, F.below.setCell (by simp; omega) _⟩
theorem Fill.begin (v : V8) (bs : List Int) (ad : Addr) (w : World) : Fill w v bs ad (fill bs 0) (((w.alloc (.cells (U32 v.list) 101)).alloc (.cells (U32 [0, 0, 0, 0, 0, 0, 0, 0]) 101)).alloc (.cells (U32 (List.replicate 64 0)) 116)) :=
  ⟨by simp [fill], ((Blk.new _ _ _).alloc _).alloc _, (Blk.new_ _ _ _ (by simp)).alloc _, Blk.new_ _ _ _ (by simp), by simp,
   (((Below.refl _ _).alloc (Nat.le_refl _) _).alloc (by simp) _).alloc (by simp; omega) _⟩
structure Rnds (w : World) (ws : List Int) (u x : V8) (wr : World) : Prop where
  b1 : Blk wr w.heap.size 101 (U32 u.list)
  b2 : Blk wr (w.heap.size + 1) 101 (U32 [0, 0, 0, 0, 0, 0, 0, 0])
  b3 : Blk wr (w.heap.size + 1 + 1) 116 (U32 ws)
  b4 : Blk wr (w.heap.size + 1 + 1 + 1) 101 (U32 x.list)
  size : wr.heap.size = w.heap.size + 1 + 1 + 1 + 1
  below : Below w.heap.size w wr
theorem Rnds.drewN {w : World} {ws : List Int} {u x : V8} {wr : World} (R : Rnds w ws u x wr) (n : Nat) : Rnds w ws u x (wr.drewN n) :=
  ⟨R.b1, R.b2, R.b3, R.b4, R.size, pw_below_drewN R.below n⟩
theorem blk_row {w : World} {g : Nat} {t : TypeId} {cs cs' : Array Value} (h : Blk w g t cs) : Blk (w.setRow g cs') g t cs' := setRow_heap w g cs cs' t (0, 0) h
theorem blk_row_far {w : World} {g k : Nat} {t : TypeId} {cs cs' : Array Value} (h : Blk w k t cs) (hne : k ≠ g) : Blk (w.setRow g cs') k t cs := (setRow_other w g k cs' hne).trans h
theorem below_row {B : Nat} {w wr : World} {g : Nat} {cs' : Array Value} (h : Below B w wr) (hg : B ≤ g) : Below B w (wr.setRow g cs') :=
  ⟨h.os, h.tape, h.output, by rw [size_setRow]; exact h.size, fun i hi => (setRow_other wr g i cs' (by omega)).trans (h.block i hi)⟩
theorem Rnds.row {w : World} {ws : List Int} {u x y : V8} {wr : World} (R : Rnds w ws u x wr) : Rnds w ws u y (wr.setRow (w.heap.size + 1 + 1 + 1) (U32 y.list)) :=
  ⟨blk_row_far R.b1 (by omega), blk_row_far R.b2 (by omega), blk_row_far R.b3 (by omega), blk_row R.b4, by rw [size_setRow]; exact R.size, below_row R.below (by omega)⟩
theorem sumTo_set (v x : V8) (k : Nat) (h : k < 8) : (sumTo v x k).list.set k (((sumTo v x k).list.getD k 0 + x.list.getD k 0) % 4294967296) = (sumTo v x (k + 1)).list := by
  (have : k = 0 ∨ k = 1 ∨ k = 2 ∨ k = 3 ∨ k = 4 ∨ k = 5 ∨ k = 6 ∨ k = 7 := by omega); (rcases this with rfl | rfl | rfl | rfl | rfl | rfl | rfl | rfl <;> simp [sumTo, V8.list])
theorem Rnds.add {w : World} {ws : List Int} {u u' x : V8} {wr : World} (R : Rnds w ws u x wr) {k : Nat} {y : Int} (h : u.list.set k y = u'.list) : Rnds w ws u' x (wr.setCell ⟨w.heap.size, k, none⟩ (.int .u32 y)) :=
  ⟨by rw [← h, ← U32_set]; exact R.b1.set_ k _, R.b2.far (by simp) _, R.b3.far (by simp; omega) _, R.b4.far (by simp; omega) _, by rw [← R.size]; simp, R.below.setCell (by simp) _⟩
theorem one8 (a b c d e f g h : Int) : (#[Value.int .u32 a, .int .u32 b, .int .u32 c, .int .u32 d, .int .u32 e, .int .u32 f, .int .u32 g, .int .u32 h]).all (·.oneCell') = true := by simp [Value.oneCell']
theorem Rnds.begin {w : World} {v : V8} {bs : List Int} {ad : Addr} {ws : List Int} {wr : World} {z : Array Value} (F : Fill w v bs ad ws wr) : Rnds w ws v v ((wr.alloc (.cells z 101)).setRow (w.heap.size + 1 + 1 + 1) (U32 v.list)) := by
  have hs : wr.heap.size = w.heap.size + 1 + 1 + 1 := F.size; (refine ⟨blk_row_far (F.b1.alloc _) (by omega), blk_row_far (F.b2.alloc _) (by omega), blk_row_far (F.b3.alloc _) (by omega), blk_row (cs := z) ?_, by rw [size_setRow]; simp [hs], below_row (F.below.alloc (by omega) _) (by omega)⟩); rw [← hs]; exact Blk.new _ _ _
theorem size8 : (Tryd.prog.info? 101).map (·.size) = some 8 := by kernel_rfl
theorem quiet_add {P : Program} {f : FuncId} {args : Array Value} {w : World} {a n : Nat} {v : Value}
    (h : Calls P f args (w.drewN (a + n)) fun e w' => e = .returned v ∧ ∃ m, w' = (w.drewN (a + n)).drewN m) :
    Calls P f args (w.drewN (a + n)) fun e w'' => e = .returned v ∧ ∃ m, w'' = w.drewN (a + m) :=
  h.mono fun _ _ ⟨he, m, hm⟩ => ⟨he, n + m, by rw [hm, World.drewN_drewN, Nat.add_assoc]⟩
set_option maxHeartbeats 8000000 in
set_option maxRecDepth 100000 in
theorem mix_walk (v : V8) (bs : List Int) (ad : Addr) (c : Nat) (w : World) (hl : bs.length = 64) (hg : GW w)
    (hr : ∀ i : Nat, i < 64 → w.cell? (ad.add i) = some (.int .u8 (rd bs i))) :
    Calls Tryd.prog 91 #[.agg (U32 v.list), .slice (some ad) 64 c] w fun e w' => e = .returned (.agg (U32 (mix v bs).list)) ∧ Below w.heap.size w w' := by
  have HR := Lib.hid hr; have HG := Lib.hid hg; clear hr hg; go_enter Tryd.func91, Tryd.ntmps91; go_wp2; (go_loopw [17] (fun i wr => ∃ (k : Nat), i = .int .i64 k ∧ k ≤ 16 ∧ Fill w v bs ad (fill bs k) wr) (fun i _ => 16 - (intOf i).toNat))
  case atStart => exact ⟨0, rfl, by omega, Fill.begin v bs ad w⟩
  case round =>
    obtain ⟨k, rfl, hk, F⟩ := hrel
    by_cases hlt : k < 16
    ·
      (have rd_ : ∀ i : Nat, i < 64 → wr.cell? (ad.add i) = some (.int .u8 (rd bs i)) := fun i hi => pw_cell_below F.below (HR.out i hi)); (have r0 := rd_ (4 * k) (by omega)); (have r1 := rd_ (4 * k + 1) (by omega)); (have r2 := rd_ (4 * k + 2) (by omega)); (have r3 := rd_ (4 * k + 3) (by omega)); (rw [add_pos_ _ _ (by omega)] at r1 r2 r3); clear rd_; (have e0 : (0:Int) ≤ 4 * (k : Int) := by omega); (have e1 : 4 * (k : Int) < 64 := by omega); (have e2 : (0:Int) ≤ 4 * (k : Int) + 1 := by omega); (have e3 : 4 * (k : Int) + 1 < 64 := by omega); (have e4 : (0:Int) ≤ 4 * (k : Int) + 2 := by omega); (have e5 : 4 * (k : Int) + 2 < 64 := by omega); (have e6 : (0:Int) ≤ 4 * (k : Int) + 3 := by omega); (have e7 : 4 * (k : Int) + 3 < 64 := by omega); (have t0 : (4 * (k : Int)).toNat = 4 * k := by omega); (have t1 : (4 * (k : Int) + 1).toNat = 4 * k + 1 := by omega); (have t2 : (4 * (k : Int) + 2).toNat = 4 * k + 2 := by omega); (have t3 : (4 * (k : Int) + 3).toNat = 4 * k + 3 := by omega); (have x0 : IntKind.i64.wrap (4 * (k : Int)) = 4 * (k : Int) := IntWalk.i64_in _ (by omega)); (have x1 : IntKind.i64.wrap (4 * (k : Int) + 1) = 4 * (k : Int) + 1 := IntWalk.i64_in _ (by omega)); (have x2 : IntKind.i64.wrap (4 * (k : Int) + 2) = 4 * (k : Int) + 2 := IntWalk.i64_in _ (by omega)); (have x3 : IntKind.i64.wrap (4 * (k : Int) + 3) = 4 * (k : Int) + 3 := IntWalk.i64_in _ (by omega)); (have hk64 : (k : Int) < 64 := by omega); go_wp2; (go_still_tail 35, (by kernel_rfl)); change wpList _ _ _ _ _ wr.drew; have D := F.drewN 1; change Fill w v bs ad (fill bs k) wr.drew at D; clear F; (generalize wr.drew = w2 at D ⊢); (have q1 := (D.b3.cell k).trans (U32_get _ k (by rw [D.len]; omega))); have q2 := D.b3.frozen k; clear r0 r1 r2 r3 e0 e1 e2 e3 e4 e5 e6 e7 t0 t1 t2 t3 x0 x1 x2 x3; go_wp2; go_roundw
      case rel => exact ⟨k + 1, by go_num, by omega, D.set_ k _⟩
      case measure => simp [intOf]; omega
    · obtain rfl : k = 16 := by omega
      clear hk hlt; obtain ⟨wo, rfl⟩ : ∃ wo : World, wo = wr := ⟨_, rfl⟩; go_wp2; (go_loopw [7] (fun i wr => ∃ (k : Nat), i = .int .i64 k ∧ 16 ≤ k ∧ k ≤ 64 ∧ Fill w v bs ad (sch bs (k - 16)) wr) (fun i _ => 64 - (intOf i).toNat))
      case atStart => exact ⟨16, rfl, by omega, by omega, F⟩
      case round =>
        obtain ⟨k, rfl, hk0, hk, F⟩ := hrel
        by_cases hlt : k < 64
        ·
          have hL : (sch bs (k - 16)).length = 64 := sch_len _ _; obtain ⟨a0, ha⟩ : ∃ x, (sch bs (k - 16)).getD (k - 16) 0 = x := ⟨_, rfl⟩; obtain ⟨x0, hx⟩ : ∃ x, (sch bs (k - 16)).getD (k - 15) 0 = x := ⟨_, rfl⟩; obtain ⟨b0, hb⟩ : ∃ x, (sch bs (k - 16)).getD (k - 7) 0 = x := ⟨_, rfl⟩; obtain ⟨y0, hy⟩ : ∃ x, (sch bs (k - 16)).getD (k - 2) 0 = x := ⟨_, rfl⟩; (have cell_ : ∀ j, j < 64 → wr.cell? ⟨w.heap.size + 1 + 1, j, none⟩ = some (.int .u32 ((sch bs (k - 16)).getD j 0)) := fun j hj => (F.b3.cell j).trans (U32_get _ j (by rw [F.len]; omega))); (have r0 := cell_ (k - 16) (by omega)); (have r1 := cell_ (k - 15) (by omega)); (have r2 := cell_ (k - 7) (by omega)); (have r3 := cell_ (k - 2) (by omega)); rw [ha] at r0; rw [hx] at r1; rw [hb] at r2; rw [hy] at r3
          have HS : Hid ((sch bs (k - 16)).set k (next a0 x0 b0 y0) = sch bs (k + 1 - 16)) := Lib.hid (by
            (rw [show k + 1 - 16 = (k - 16) + 1 by omega]); simp only [sch]
            rw [ha, show k - 16 + 1 = k - 15 by omega, hx, show k - 16 + 9 = k - 7 by omega, hb, show k - 16 + 14 = k - 2 by omega, hy, show 16 + (k - 16) = k by omega])
          clear ha hx hb hy cell_ hL; (have f16 : (16:Int) ≤ (k : Int) := by omega); (have g16 : (k : Int) < 80 := by omega); (have f15 : (15:Int) ≤ (k : Int) := by omega); (have g15 : (k : Int) < 79 := by omega); (have f7 : (7:Int) ≤ (k : Int) := by omega); (have g7 : (k : Int) < 71 := by omega); (have f2 : (2:Int) ≤ (k : Int) := by omega); (have g2 : (k : Int) < 66 := by omega); (have e0 : (0:Int) ≤ (k : Int) - 15 := by omega); (have e1 : (k : Int) - 15 < 64 := by omega); (have e2 : (0:Int) ≤ (k : Int) - 16 := by omega); (have e3 : (k : Int) - 16 < 64 := by omega); (have e4 : (0:Int) ≤ (k : Int) - 7 := by omega); (have e5 : (k : Int) - 7 < 64 := by omega); (have e6 : (0:Int) ≤ (k : Int) - 2 := by omega); (have e7 : (k : Int) - 2 < 64 := by omega); (have t0 : ((k : Int) - 15).toNat = k - 15 := by omega); (have t1 : ((k : Int) - 16).toNat = k - 16 := by omega); (have t2 : ((k : Int) - 7).toNat = k - 7 := by omega); (have t3 : ((k : Int) - 2).toNat = k - 2 := by omega); (have z0 : IntKind.i64.wrap ((k : Int) - 15) = (k : Int) - 15 := IntWalk.i64_in _ (by omega)); (have z1 : IntKind.i64.wrap ((k : Int) - 16) = (k : Int) - 16 := IntWalk.i64_in _ (by omega)); (have z2 : IntKind.i64.wrap ((k : Int) - 7) = (k : Int) - 7 := IntWalk.i64_in _ (by omega)); (have z3 : IntKind.i64.wrap ((k : Int) - 2) = (k : Int) - 2 := IntWalk.i64_in _ (by omega)); (have hk64 : (k : Int) < 64 := by omega); go_wp2; go_quiet (fail); go_wp2; (refine start_ (n := 30) (S := fun w' => w'.cell? ⟨w.heap.size + 1 + 1, k - 16, none⟩ = some (.int .u32 a0) ∧ w'.cell? ⟨w.heap.size + 1 + 1, k - 7, none⟩ = some (.int .u32 b0)) (ds := [29]) #[false, false, false, false, false, false, false, false, false, false, false, false, false, false, false, false, false, false, false, false, false, false, false, false, false, false, false, false, false, false] (by kernel_rfl) rfl rfl ⟨r0, r2⟩ (fun hHeld => ?_)); (refine bulk (fuel := 13) [(0, 68), (1, 69), (2, 70), (3, 71), (4, 72), (5, 73), (7, 75), (10, 78), (11, 79), (14, 82), (15, 83), (16, 84), (17, 85), (19, 87), (21, 89), (24, 92), (25, 93)] #[true, true, true, true, true, true, false, true, false, false, true, true, false, false, true, true, true, true, false, true, false, true, false, false, true, true, false, false, false, false] (a' := ?_) (by kernel_rfl) rfl hHeld ?_ ?_); rotate_left
          · repeat
              (refine Runs.cons (v := ?_) (a1 := ?_) rfl rfl (fun _ _ _ h => h) (by rfl) ?_ ?_ ?_); rotate_left
              · rintro w' ⟨s0, s1⟩
                go_simp; (with_reducible rfl)
              rotate_left
              · simp only [Act.put, List.setIfInBounds_toArray, List.set_cons_zero, List.set_cons_succ, i64_w, i32_w, u32_w]
                rfl
            exact Runs.nil
          (refine one_ (i := 6) (N := some 74) #[true, true, true, true, true, true, true, true, false, false, true, true, false, false, true, true, true, true, false, true, false, true, false, false, true, true, false, false, false, false] rfl rfl (by kernel_rfl) (by decide) (fun K hK => ?_)); (refine goes_ Tryd.func95 (by kernel_rfl) rfl #[.int .u32 x0, .int .i64 7] (by rfl) rfl rfl (by (try simp only [List.map_toArray, List.map_cons, List.map_nil]); first | done | rfl) ?_); (with_reducible refine (turn_any x0 7 _ (by decide) (by decide)).mono ?_); rintro e w' ⟨rfl, nd, rfl⟩; refine ⟨_, rfl, ?_⟩; (refine hK.out _ _ ⟨hHeld.1, hHeld.2⟩ (fun hHeld => ?_)); clear hK K; refine norm_ (a' := ?_) ?_ ?_; rotate_left
          · show Act.put _ (some 74) _ = _
            simp only [Act.put, List.setIfInBounds_toArray, List.set_cons_zero, List.set_cons_succ, i64_w, i32_w, u32_w]; rfl
          (refine one_ (i := 8) (N := some 76) #[true, true, true, true, true, true, true, true, true, false, true, true, false, false, true, true, true, true, false, true, false, true, false, false, true, true, false, false, false, false] rfl rfl (by kernel_rfl) (by decide) (fun K hK => ?_)); (refine goes_ Tryd.func95 (by kernel_rfl) rfl #[.int .u32 x0, .int .i64 18] (by rfl) rfl rfl (by (try simp only [List.map_toArray, List.map_cons, List.map_nil]); first | done | rfl) ?_); (with_reducible refine (turn_any x0 18 _ (by decide) (by decide)).mono ?_); rintro e w' ⟨rfl, nd, rfl⟩; refine ⟨_, rfl, ?_⟩; (refine hK.out _ _ ⟨hHeld.1, hHeld.2⟩ (fun hHeld => ?_)); clear hK K; refine norm_ (a' := ?_) ?_ ?_; rotate_left
          · show Act.put _ (some 76) _ = _
            simp only [Act.put, List.setIfInBounds_toArray, List.set_cons_zero, List.set_cons_succ, i64_w, i32_w, u32_w]; rfl
          (refine bulk (fuel := 7) [(9, 77), (12, 80), (13, 81), (18, 86)] #[true, true, true, true, true, true, true, true, true, true, true, true, true, true, true, true, true, true, true, true, false, true, false, false, true, true, false, false, false, false] (a' := ?_) (by kernel_rfl) rfl hHeld ?_ ?_); rotate_left
          · repeat
              (refine Runs.cons (v := ?_) (a1 := ?_) rfl rfl (fun _ _ _ h => h) (by rfl) ?_ ?_ ?_); rotate_left
              · rintro w' ⟨s0, s1⟩
                go_simp; (with_reducible rfl)
              rotate_left
              · simp only [Act.put, List.setIfInBounds_toArray, List.set_cons_zero, List.set_cons_succ, i64_w, i32_w, u32_w]
                rfl
            exact Runs.nil
          (refine one_ (i := 20) (N := some 88) #[true, true, true, true, true, true, true, true, true, true, true, true, true, true, true, true, true, true, true, true, true, true, false, false, true, true, false, false, false, false] rfl rfl (by kernel_rfl) (by decide) (fun K hK => ?_)); (refine goes_ Tryd.func95 (by kernel_rfl) rfl #[.int .u32 y0, .int .i64 17] (by rfl) rfl rfl (by (try simp only [List.map_toArray, List.map_cons, List.map_nil]); first | done | rfl) ?_); (with_reducible refine (turn_any y0 17 _ (by decide) (by decide)).mono ?_); rintro e w' ⟨rfl, nd, rfl⟩; refine ⟨_, rfl, ?_⟩; (refine hK.out _ _ ⟨hHeld.1, hHeld.2⟩ (fun hHeld => ?_)); clear hK K; refine norm_ (a' := ?_) ?_ ?_; rotate_left
          · show Act.put _ (some 88) _ = _
            simp only [Act.put, List.setIfInBounds_toArray, List.set_cons_zero, List.set_cons_succ, i64_w, i32_w, u32_w]; rfl
          (refine one_ (i := 22) (N := some 90) #[true, true, true, true, true, true, true, true, true, true, true, true, true, true, true, true, true, true, true, true, true, true, true, false, true, true, false, false, false, false] rfl rfl (by kernel_rfl) (by decide) (fun K hK => ?_)); (refine goes_ Tryd.func95 (by kernel_rfl) rfl #[.int .u32 y0, .int .i64 19] (by rfl) rfl rfl (by (try simp only [List.map_toArray, List.map_cons, List.map_nil]); first | done | rfl) ?_); (with_reducible refine (turn_any y0 19 _ (by decide) (by decide)).mono ?_); rintro e w' ⟨rfl, nd, rfl⟩; refine ⟨_, rfl, ?_⟩; (refine hK.out _ _ ⟨hHeld.1, hHeld.2⟩ (fun hHeld => ?_)); clear hK K; refine norm_ (a' := ?_) ?_ ?_; rotate_left
          · show Act.put _ (some 90) _ = _
            simp only [Act.put, List.setIfInBounds_toArray, List.set_cons_zero, List.set_cons_succ, i64_w, i32_w, u32_w]; rfl
          (refine bulk (fuel := 1) [(23, 91), (26, 94), (27, 95), (28, 96)] #[true, true, true, true, true, true, true, true, true, true, true, true, true, true, true, true, true, true, true, true, true, true, true, true, true, true, true, true, true, false] (a' := ?_) (by kernel_rfl) rfl hHeld ?_ ?_); rotate_left
          · repeat
              (refine Runs.cons (v := ?_) (a1 := ?_) rfl rfl (fun _ _ _ h => h) (by rfl) ?_ ?_ ?_); rotate_left
              · rintro w' ⟨s0, s1⟩
                go_simp; (with_reducible rfl)
              rotate_left
              · simp only [Act.put, List.setIfInBounds_toArray, List.set_cons_zero, List.set_cons_succ, i64_w, i32_w, u32_w]
                rfl
            exact Runs.nil
          (have q1 := (F.b3.cell k).trans (U32_get _ k (by rw [F.len]; omega))); have q2 := F.b3.frozen k; (refine end_store (n := 0) (i := 29) (w1 := ?_) #[true, true, true, true, true, true, true, true, true, true, true, true, true, true, true, true, true, true, true, true, true, true, true, true, true, true, true, true, true, true] rfl rfl (by kernel_rfl) (by decide) (by kernel_rfl) (by rfl) ?_ ?_); rotate_left
          · go_simp
            rfl
          clear q1 q2; go_wp2; go_roundw
          case rel => exact ⟨k + 1, by go_num, by omega, by omega, by rw [← HS.out]; exact (F.drewN _).set_ k _⟩
          case measure => simp [intOf]; omega
        · obtain rfl : k = 64 := by omega
          clear hk hlt hk0; obtain ⟨wo2, rfl⟩ : ∃ wo : World, wo = wr := ⟨_, rfl⟩; have hs : wo2.heap.size = w.heap.size + 1 + 1 + 1 := F.size
          have hg3 : Blk (wo2.alloc (.cells #[.int .u32 0, .int .u32 0, .int .u32 0, .int .u32 0, .int .u32 0, .int .u32 0, .int .u32 0, .int .u32 0] 101)) (w.heap.size + 1 + 1 + 1) 101 #[.int .u32 0, .int .u32 0, .int .u32 0, .int .u32 0, .int .u32 0, .int .u32 0, .int .u32 0, .int .u32 0] := by
            rw [← hs]; exact Blk.new _ _ _
          go_wp2_with (first | (refine wpList_load_row rfl 101 _ rfl w.heap.size rfl 101 (U32 v.list) _ _ F.b1 Tryd.underlying101 rfl size8 ?_) | (refine wpList_store_row rfl 101 _ _ rfl (w.heap.size + 1 + 1 + 1) (U32 v.list) rfl rfl 101 _ hg3 size8 rfl (U32_one _) ?_)); have R0 : Rnds w (sch bs 48) v v _ := Rnds.begin (z := #[.int .u32 0, .int .u32 0, .int .u32 0, .int .u32 0, .int .u32 0, .int .u32 0, .int .u32 0, .int .u32 0]) F; clear hs hg3; (generalize World.setRow _ _ _ = w3 at R0 ⊢); clear F; (go_loopw [98] (fun i wr => ∃ (k : Nat), i = .int .i64 k ∧ k ≤ 64 ∧ Rnds w (sch bs 48) v (rnds (sch bs 48) v k) wr) (fun i _ => 64 - (intOf i).toNat))
          case atStart => exact ⟨0, rfl, by omega, R0⟩
          case round =>
            obtain ⟨k, rfl, hk, R⟩ := hrel
            by_cases hlt : k < 64
            · have hk64 : (k : Int) < 64 := by omega
              obtain ⟨ww, hww⟩ : ∃ x, (sch bs 48).getD k 0 = x := ⟨_, rfl⟩; obtain ⟨kk, hkk⟩ : ∃ x, consts.getD k 0 = x := ⟨_, rfl⟩; obtain ⟨y, hy⟩ : ∃ y, rnds (sch bs 48) v k = y := ⟨_, rfl⟩; (have HS : Hid (⟨(tee y.e y.f y.g y.h kk ww + you y.a y.b y.c) % 4294967296, y.a, y.b, y.c, (y.d + tee y.e y.f y.g y.h kk ww) % 4294967296, y.e, y.f, y.g⟩ = rnds (sch bs 48) v (k + 1)) := Lib.hid (by simp only [rnds, rnd, hy, hww, hkk])); rw [hy] at R; (have cW := (R.b3.cell k).trans (U32_get _ k (by rw [sch_len]; omega))); have cK := pw_cell_below R.below (HG.out k hlt); rw [hww] at cW; rw [hkk] at cK; clear hww hkk hy; obtain ⟨a, b, c1, d, e, f, g, h7⟩ := y; have c0_ : wr.cell? ⟨w.heap.size + 1 + 1 + 1, 0, none⟩ = some (.int .u32 a) := R.b4.cell 0; have c1_ : wr.cell? ⟨w.heap.size + 1 + 1 + 1, 1, none⟩ = some (.int .u32 b) := R.b4.cell 1; have c2_ : wr.cell? ⟨w.heap.size + 1 + 1 + 1, 2, none⟩ = some (.int .u32 c1) := R.b4.cell 2; have c3_ : wr.cell? ⟨w.heap.size + 1 + 1 + 1, 3, none⟩ = some (.int .u32 d) := R.b4.cell 3; have c4_ : wr.cell? ⟨w.heap.size + 1 + 1 + 1, 4, none⟩ = some (.int .u32 e) := R.b4.cell 4; have c5_ : wr.cell? ⟨w.heap.size + 1 + 1 + 1, 5, none⟩ = some (.int .u32 f) := R.b4.cell 5; have c6_ : wr.cell? ⟨w.heap.size + 1 + 1 + 1, 6, none⟩ = some (.int .u32 g) := R.b4.cell 6; have c7_ : wr.cell? ⟨w.heap.size + 1 + 1 + 1, 7, none⟩ = some (.int .u32 h7) := R.b4.cell 7; (have mx : IntKind.u32.max = 4294967295 := by decide); go_wp2; go_quiet (fail); go_wp2; (go_quiet ((go_at_call 95; exact quiet_add (turn_any _ _ _ (by decide) (by decide))))); go_wp2; (go_quiet ((go_at_call 95; exact quiet_add (turn_any _ _ _ (by decide) (by decide))))); go_wp2_with (first | (refine wpList_store_row rfl 101 _ _ rfl (w.heap.size + 1 + 1 + 1) #[_, _, _, _, _, _, _, _] rfl rfl 101 _ R.b4 size8 rfl (one8 _ _ _ _ _ _ _ _) ?_)); go_roundw
              case rel => exact ⟨k + 1, by go_num, by omega, by rw [← HS.out]; exact (R.drewN _).row⟩
              case measure => simp [intOf]; omega
            · obtain rfl : k = 64 := by omega
              clear hk hlt; obtain ⟨wo3, rfl⟩ : ∃ wo : World, wo = wr := ⟨_, rfl⟩; (rw [show ((64 : Nat) : Int) = 64 from rfl]); go_wp2; have R1 : Rnds w (sch bs 48) (sumTo v (rnds (sch bs 48) v 64) 0) (rnds (sch bs 48) v 64) wo3 := R; (go_loopw [180] (fun i wr => ∃ (k : Nat), i = .int .i64 k ∧ k ≤ 8 ∧ Rnds w (sch bs 48) (sumTo v (rnds (sch bs 48) v 64) k) (rnds (sch bs 48) v 64) wr) (fun i _ => 8 - (intOf i).toNat))
              case atStart => exact ⟨0, rfl, by omega, R1⟩
              case round =>
                clear R1; obtain ⟨k, rfl, hk, R⟩ := hrel
                by_cases hlt : k < 8
                · have hk64 : (k : Int) < 8 := by omega
                  obtain ⟨x, hx⟩ : ∃ x, rnds (sch bs 48) v 64 = x := ⟨_, rfl⟩; obtain ⟨s, hs⟩ : ∃ s, sumTo v x k = s := ⟨_, rfl⟩; rw [hx, hs] at R; obtain ⟨p, hp⟩ : ∃ p, s.list.getD k 0 = p := ⟨_, rfl⟩; obtain ⟨q, hq⟩ : ∃ q, x.list.getD k 0 = q := ⟨_, rfl⟩; have HX := Lib.hid hx; have HS := Lib.hid hs; have HP := Lib.hid hp; have HQ := Lib.hid hq; (have cP := (R.b1.cell k).trans (U32_get _ k (by simp [V8.list]; omega))); (have cQ := (R.b4.cell k).trans (U32_get _ k (by simp [V8.list]; omega))); rw [hp] at cP; rw [hq] at cQ; have fP := R.b1.frozen k; clear hx hs hp hq; go_wp2; (go_still_tail 8, (by kernel_rfl)); change wpList _ _ _ _ _ wr.drew; have D := R.drewN 1; change Rnds _ _ _ _ wr.drew at D; clear R cP cQ fP; (generalize wr.drew = w5 at D ⊢); (have cP := (D.b1.cell k).trans (U32_get _ k (by simp [V8.list]; omega))); have fP := D.b1.frozen k; go_wp2; go_roundw
                  case rel => exact ⟨k + 1, by go_num, by omega, by rw [HX.out]; exact D.add (by rw [← HP.out, ← HQ.out, ← HS.out]; exact sumTo_set v x k hlt)⟩
                  case measure => simp [intOf]; omega
                · obtain rfl : k = 8 := by omega
                  clear hk hlt; obtain ⟨wo4, rfl⟩ : ∃ wo : World, wo = wr := ⟨_, rfl⟩; change Rnds w (sch bs 48) (mix v bs) _ wo4 at R; go_wp2_with (first | (refine wpList_load_row rfl 101 _ rfl w.heap.size rfl 101 (U32 (mix v bs).list) _ _ R.b1 Tryd.underlying101 rfl size8 ?_) | (refine wpList_store_row rfl 101 _ _ rfl (w.heap.size + 1) (U32 (mix v bs).list) rfl rfl 101 _ R.b2 size8 rfl (U32_one _) ?_)); (exact bodyPost_ret (v := .agg (U32 (mix v bs).list)) (results_cell_row (fn := Tryd.f91) rfl _ _ (w.heap.size + 1) 101 (U32 (mix v bs).list) (0, 0) _ rfl (blk_row R.b2) Tryd.underlying101 rfl size8) rfl ⟨rfl, below_row R.below (by omega)⟩)
end Go.Proofs.YtpmefpdafkbphaaDoor.HSha

import Derived.Test.YtpmefpdafkbphaaDoorZtHShaA
import Derived.WalkSpells
import Derived.Test.YtpmefpdafkbphaaDoorZtWMore
namespace Go.Proofs.YtpmefpdafkbphaaDoor.HSha
open Go.RowKit Go.Proofs.YtpmefpdafkbphaaDoorW.PrintWords Go.Proofs.YtpmefpdafkbphaaDoorW.PrintLast Go.Proofs.YtpmefpdafkbphaaDoorW.PrintMore HReg
set_option linter.unusedVariables false
set_option linter.unusedSimpArgs false
theorem gw_step {w w' : World} (h : Aside0 (GW w)) (hb : Below w.heap.size w w') : Aside0 (GW w') := ⟨h.out.below hb⟩
def St (v : V8) (A : Option Addr) (n c : Nat) (N : Int) : Value := .agg #[.int .u32 v.a, .int .u32 v.b, .int .u32 v.c, .int .u32 v.d, .int .u32 v.e, .int .u32 v.f, .int .u32 v.g, .int .u32 v.h, .slice A n c, .int .i64 N]
def init : V8 := ⟨1779033703, 3144134277, 1013904242, 2773480762, 1359893119, 2600822924, 528734635, 1541459225⟩
def rightB (n : Nat) (N : Int) : Bool := decide (0 ≤ N) && decide (N ≤ 1099511627776) && decide ((n : Int) = N % 64)
theorem info8 : (Tryd.prog.info? 5).map (fun i => (i.zero, i.size, i.bytes)) = some (some (.int .u8 0), 1, 1) := by kernel_rfl
theorem info8i : ∃ i, Tryd.prog.info? 5 = some i ∧ i.size = 1 := by
  obtain ⟨i, hi, hz⟩ := Option.map_eq_some_iff.1 info8; simp only [Prod.mk.injEq] at hz; exact ⟨i, hi, hz.2.1⟩
theorem run_storeVar_part {P : Program} (w : World) (g : Nat) (t ty : TypeId) (cur cells : Array Value) (hg : Blk w g t cur) (hi : (P.info? ty).map (·.size) = some cells.size)
    (ho : cells.size ≤ cur.size) (h1 : ∀ v ∈ cells.toList, v.oneCell' = true) :
    (storeVar ty ⟨g, 0, none⟩ (.agg cells)).run P w = .ok () (w.setRow g (cells.toList ++ cur.toList.drop cells.size).toArray) := by
  have := run_storeCells_at P g 0 t cells.toList 0 cur w hg (by simpa using ho) h1
  cases hq : P.info? ty with
  | none => simp [hq] at hi
  | some i =>
    (have hs : cells.size = i.size := by simp [hq] at hi; omega); simp only [Nat.zero_add, List.take_zero, List.nil_append, Array.length_toList] at this; (simp [storeVar, sizeOf, typeInfo, hq, Value.cells, hs] at this ⊢); rw [this]
theorem wpList_store_part {P : Program} {ops : Array Oper} {rest : List Oper} {o : Oper} {a : Act} {w : World} {Q : Exit → Act → World → Prop} (hgd : o.guard = none) (ty : TypeId) (x y : Operand) (ho : o.op = .store ty x y)
    (g : Nat) (cells : Array Value) (hx : a.eval x = .pointer (some ⟨g, 0, none⟩)) (hy : a.eval y = .agg cells)
    (t : TypeId) (old : Array Value) (hg : Blk w g t old) (hi : (P.info? ty).map (·.size) = some cells.size)
    (hold : cells.size ≤ old.size) (h1 : ∀ v ∈ cells.toList, v.oneCell' = true)
    (h : wpList P ops Q rest (a.put o.dst undef) (w.setRow g (cells.toList ++ old.toList.drop cells.size).toArray)) : wpList P ops Q (o :: rest) a w := by
  (refine wpList_plain hgd fun K hK => ?_); unfold Oper.wp execOp; simp only [ho, hx, hy, Instr.storeAt, Instr.sureAddr, Sem.run_bind, Sem.run_pure, Result.andThen_ok, run_storeVar_part w g t ty old cells hg hi hold h1]; exact hK _ _ h
theorem mem8 (a b c d e f g h : Int) : ∀ v ∈ (#[Value.int .u32 a, .int .u32 b, .int .u32 c, .int .u32 d, .int .u32 e, .int .u32 f, .int .u32 g, .int .u32 h]).toList, v.oneCell' = true := by simp [Value.oneCell']
theorem mix_any (v : V8) (bs : List Int) (ad : Addr) (c : Nat) (w : World) (hl : bs.length = 64) (hg : GW w)
    (hr : ∀ i : Nat, i < 64 → w.cell? (ad.add i) = some (.int .u8 (rd bs i))) :
    Calls Tryd.prog 91 #[.agg #[.int .u32 v.a, .int .u32 v.b, .int .u32 v.c, .int .u32 v.d, .int .u32 v.e, .int .u32 v.f, .int .u32 v.g, .int .u32 v.h], .slice (some ad) 64 c] w fun e w' =>
      e = .returned (.agg #[.int .u32 (mix v bs).a, .int .u32 (mix v bs).b, .int .u32 (mix v bs).c, .int .u32 (mix v bs).d, .int .u32 (mix v bs).e, .int .u32 (mix v bs).f, .int .u32 (mix v bs).g, .int .u32 (mix v bs).h]) ∧ Below w.heap.size w w' :=
  mix_walk v bs ad c w hl hg hr
theorem size10 : (Tryd.prog.info? 103).map (·.size) = some 10 := by kernel_rfl
def stCells (v : V8) (A : Option Addr) (n c : Nat) (N : Int) : Array Value := #[.int .u32 v.a, .int .u32 v.b, .int .u32 v.c, .int .u32 v.d, .int .u32 v.e, .int .u32 v.f, .int .u32 v.g, .int .u32 v.h, .slice A n c, .int .i64 N]
set_option maxHeartbeats 800000 in
theorem new_any (w : World) : Calls Tryd.prog 82 #[] w fun e w' => e = .returned (St init none 0 0 0) ∧ Below w.heap.size w w' := by
  go_enter Tryd.func82, Tryd.ntmps82; go_wp2; exact bodyPost_ret (v := St init none 0 0 0) (results_cell_row (fn := Tryd.f82) rfl _ _ w.heap.size 103 (stCells init none 0 0 0) (0, 0) _ rfl (heap_alloc_new w _) Tryd.underlying103 rfl size10) rfl ⟨rfl, (Below.refl _ _).alloc (Nat.le_refl _) _⟩
theorem rightB_true {n : Nat} {N : Int} (h0 : 0 ≤ N) (h1 : N ≤ 1099511627776) (h2 : (n : Int) = N % 64) : rightB n N = true := by simp [rightB, h0, h1, h2]
theorem rightB_spec {n : Nat} {N : Int} : rightB n N = true ↔ 0 ≤ N ∧ N ≤ 1099511627776 ∧ (n : Int) = N % 64 := by simp [rightB, and_assoc]
set_option maxHeartbeats 800000 in
theorem right_any (v : V8) (A : Option Addr) (n c : Nat) (N : Int) (w : World) :
    Calls Tryd.prog 90 #[St v A n c N] w fun e w' => e = .returned (.bool (rightB n N)) ∧ Below w.heap.size w w' := by
  unfold St; obtain ⟨b, hb⟩ : ∃ b, rightB n N = b := ⟨_, rfl⟩; rw [hb]
  by_cases h0 : 0 ≤ N
  · by_cases h1 : N ≤ 1099511627776
    · by_cases h2 : (n : Int) = N % 64
      · obtain rfl : b = true := by rw [← hb]; exact rightB_true h0 h1 h2
        clear hb; go_enter Tryd.func90, Tryd.ntmps90; go_wp2; go_ret; exact ⟨rfl, (Below.refl _ _).alloc (Nat.le_refl _) _⟩
      · obtain rfl : b = false := by rw [← hb]; simp [rightB, h2]
        have h3 : ((n : Int) == N % 64) = false := beq_eq_false_iff_ne.2 h2; clear hb h2; go_enter Tryd.func90, Tryd.ntmps90; go_wp2; go_ret; exact ⟨rfl, (Below.refl _ _).alloc (Nat.le_refl _) _⟩
    · obtain rfl : b = false := by rw [← hb]; simp [rightB, h1]
      (have h3 : decide (N ≤ 1099511627776) = false := by simpa using h1); clear hb h1; go_enter Tryd.func90, Tryd.ntmps90; go_wp2; go_ret; exact ⟨rfl, (Below.refl _ _).alloc (Nat.le_refl _) _⟩
  · obtain rfl : b = false := by rw [← hb]; simp [rightB, h0]
    (have h3 : decide (0 ≤ N) = false := by simpa using h0); clear hb h0; go_enter Tryd.func90, Tryd.ntmps90; go_wp2; go_ret; exact ⟨rfl, (Below.refl _ _).alloc (Nat.le_refl _) _⟩
def absorb : Nat → V8 → List Int → V8 × List Int
  | 0, v, l => (v, l)
  | k + 1, v, l => if 64 ≤ l.length then absorb k (mix v (l.take 64)) (l.drop 64) else (v, l)
def absorbs (v : V8) (l : List Int) : V8 × List Int := absorb (l.length / 64) v l
theorem absorbs_step {v : V8} {l : List Int} (h : 64 ≤ l.length) : absorbs v l = absorbs (mix v (l.take 64)) (l.drop 64) := by
  unfold absorbs; (rw [show l.length / 64 = (l.length - 64) / 64 + 1 by omega]); simp only [absorb]; rw [if_pos h, List.length_drop]
theorem absorbs_end {v : V8} {l : List Int} (h : l.length < 64) : absorbs v l = (v, l) := by
  unfold absorbs; (rw [show l.length / 64 = 0 by omega]); rfl
def addOk (rest : List Int) (N : Int) (m : Nat) : Bool := rightB rest.length N && decide (N + m ≤ 1099511627776)
theorem Blk.grown {w w' : World} {g : Nat} {t : TypeId} {cs : Array Value} {row : Option Nat} (h : Blk w g t cs) (hb : w.grownBy w' row) (hg : some g ≠ row) : Blk w' g t cs := (hb.block g h.lt hg).trans h
structure AddS (w : World) (v : V8) (A : Option Addr) (n c : Nat) (N : Int) (wr : World) : Prop where
  b : Blk wr w.heap.size 103 (stCells v A n c N)
  z : Has wr (w.heap.size + 1) 103 10
  size : w.heap.size + 2 ≤ wr.heap.size
  below : Below w.heap.size w wr
section
variable {w wr w1 : World} {v : V8} {A : Option Addr} {n c : Nat} {N : Int}
theorem AddS.step (S : AddS w v A n c N wr) (h : Below wr.heap.size wr w1) : AddS w v A n c N w1 :=
  ⟨S.b.below h S.b.lt, (by obtain ⟨cs, hs, hb⟩ := S.z; exact ⟨cs, hs, hb.below h hb.lt⟩), Nat.le_trans S.size h.size, below_then S.below S.below.size h⟩
theorem AddS.drewN (S : AddS w v A n c N wr) (k : Nat) : AddS w v A n c N (wr.drewN k) := ⟨S.b, S.z, S.size, pw_below_drewN S.below k⟩
theorem AddS.grown {row : Option Nat} (S : AddS w v A n c N wr) (h : wr.grownBy w1 row) (h0 : some w.heap.size ≠ row) (h1 : some (w.heap.size + 1) ≠ row) (hb : Below w.heap.size w w1) : AddS w v A n c N w1 :=
  ⟨S.b.grown h h0, (by obtain ⟨cs, hs, hb⟩ := S.z; exact ⟨cs, hs, hb.grown h h1⟩), Nat.le_trans S.size h.size, hb⟩
theorem AddS.app {base : Nat} {ok : Nat → Prop} {u : Value} {xs : List Int} (S : AddS w v A n c N wr) (ho : Kd.R (Kd.int .u8) 5 wr base ok u xs) (h : wr.grownBy w1 u.ownBlock) (hb : Below w.heap.size w w1) : AddS w v A n c N w1 :=
  S.grown h (Kd.R_ne ho S.b (by decide)) (by obtain ⟨cs, hs, hz⟩ := S.z; exact Kd.R_ne ho hz (by decide)) hb
theorem AddS.row (S : AddS w v A n c N wr) (v' : V8) : AddS w v' A n c N (wr.setRow w.heap.size (stCells v' A n c N)) :=
  ⟨blk_row S.b, (by obtain ⟨cs, hs, hb⟩ := S.z; exact ⟨cs, hs, blk_row_far hb (by simp)⟩), by rw [size_setRow]; exact S.size, below_row S.below (Nat.le_refl _)⟩
theorem AddS.rest {A' : Option Addr} {n' c' : Nat} (S : AddS w v A n c N wr) : AddS w v A' n' c' N (wr.setCell ⟨w.heap.size, 8, none⟩ (.slice A' n' c')) :=
  ⟨by have h := S.b.set_ 8 (.slice A' n' c'); simpa [stCells] using h, (by obtain ⟨cs, hs, hb⟩ := S.z; exact ⟨cs, hs, hb.far (by simp) _⟩), by simpa using S.size, S.below.setCell (by simp) _⟩
theorem R_row {base g : Nat} {ok : Nat → Prop} {t : TypeId} {cs cs' : Array Value} {u : Value} {xs : List Int} (h : Kd.R (Kd.int .u8) 5 wr base ok u xs) (hb : Blk wr g t cs) (ht : ∀ q, q ∈ 5 :: (Kd.int .u8).E → q ≠ t) : Kd.R (Kd.int .u8) 5 (wr.setRow g cs') base ok u xs :=
  Kd.R_mono (Kd.R_step (Kd.R_types h hb ht) (fun k hk _ => setRow_other wr g k cs' hk.2)) (fun _ hk => hk.1)
theorem AddS.begin (w : World) (v : V8) (A : Option Addr) (n c : Nat) (N : Int) (z : Array Value) (hz : z.size = 10) : AddS w v A n c N ((w.alloc (.cells (stCells v A n c N) 103)).alloc (.cells z 103)) :=
  ⟨(Blk.new _ _ _).alloc _, ⟨z, hz, Blk.new_ _ _ _ (by simp)⟩, by simp, ((Below.refl _ _).alloc (Nat.le_refl _) _).alloc (by simp) _⟩
theorem AddS.cell (S : AddS w v A n c N wr) (i : Nat) : wr.cell? ⟨w.heap.size, i, none⟩ = (stCells v A n c N)[i]? := S.b.cell i
theorem AddS.num (S : AddS w v A n c N wr) (M : Int) : AddS w v A n c M (wr.setCell ⟨w.heap.size, 9, none⟩ (.int .i64 M)) :=
  ⟨by have h := S.b.set_ 9 (.int .i64 M); simpa [stCells] using h, (by obtain ⟨cs, hs, hb⟩ := S.z; exact ⟨cs, hs, hb.far (by simp) _⟩), by simpa using S.size, S.below.setCell (by simp) _⟩
end
def RF (w : World) (B : Nat) (A : Option Addr) (n : Nat) (xs : List Int) : Prop := ReadsInt w .u8 A n xs ∧ ∀ ad, A = some ad → 0 < n → ad.block ≠ B ∧ ad.block < w.heap.size
theorem block_add (a : Addr) (n : Nat) : (a.add n).block = a.block := by unfold Addr.add; split <;> rfl
theorem RF.keep {w w' : World} {B : Nat} {A : Option Addr} {n : Nat} {xs : List Int} (h : RF w B A n xs) (hk : ∀ p : Addr, p.block ≠ B → p.block < w.heap.size → w'.cell? p = w.cell? p) (hs : w.heap.size ≤ w'.heap.size) : RF w' B A n xs := by
  (refine ⟨⟨h.1.1, h.1.2.1, fun hn => ?_⟩, fun ad e hn => ⟨(h.2 ad e hn).1, Nat.lt_of_lt_of_le (h.2 ad e hn).2 hs⟩⟩); obtain ⟨ad, e, hc⟩ := h.1.2.2 hn; (exact ⟨ad, e, fun j hj => (hk _ (by rw [block_add]; exact (h.2 ad e hn).1) (by rw [block_add]; exact (h.2 ad e hn).2)).trans (hc j hj)⟩)
theorem RF.set_ {w : World} {B : Nat} {A : Option Addr} {n : Nat} {xs : List Int} (h : RF w B A n xs) (i : Nat) (u : Value) : RF (w.setCell ⟨B, i, none⟩ u) B A n xs :=
  h.keep (fun p hp _ => World.cell?_setCell_other w _ p u (fun e => hp (congrArg Addr.block e.symm))) (by simp)
theorem RF.row {w : World} {B : Nat} {A : Option Addr} {n : Nat} {xs : List Int} (h : RF w B A n xs) (cs : Array Value) : RF (w.setRow B cs) B A n xs :=
  h.keep (fun p hp _ => cell_setRow_other w B cs p hp) (by rw [size_setRow]; exact Nat.le_refl _)
theorem RF.below {w w' : World} {B : Nat} {A : Option Addr} {n : Nat} {xs : List Int} (h : RF w B A n xs) (hb : Below w.heap.size w w') : RF w' B A n xs :=
  h.keep (fun p _ hp => hb.cell hp) hb.size
theorem RF.of_own {w : World} {base B : Nat} {ok : Nat → Prop} {t : TypeId} {cs : Array Value} {u : Value} {xs : List Int} (h : Kd.R (Kd.int .u8) 5 w base ok u xs) (hB : Blk w B t cs) (ht : 5 ≠ t := by decide) :
    ∃ A c, u = .slice A xs.length c ∧ xs.length ≤ c ∧ RF w B A xs.length xs := by
  obtain ⟨A, c, rfl, hc, hC⟩ := Kd.R_reads h; (refine ⟨A, c, rfl, hc, Kd.reads_of_C (enc := Value.int .u8) (d := (0 : Int)) (h1 := fun _ => rfl) hC, fun ad e hn => ?_⟩); obtain ⟨g, cap, hv, _, hlt, _⟩ := Kd.R_form h hn; have hne := Kd.R_ne h hB ht; subst e; injection hv with hA _ _; injection hA with hA; subst hA; (exact ⟨fun e => hne (by subst e; simp [Value.ownBlock]), hlt⟩)
theorem RF.drop_ {w : World} {B : Nat} {A : Option Addr} {n c : Nat} {xs : List Int} (h : RF w B A n xs) (i : Nat) (hi : i ≤ n) (hc : n ≤ c) : RF w B (if c = i then A else A.map (·.add i)) (n - i) (xs.drop i) := by
  refine ⟨h.1.drop_ i hi hc, fun ad e hn => ?_⟩
  by_cases hci : c = i
  · rw [if_pos hci] at e
    exact h.2 ad e (by omega)
  · rw [if_neg hci] at e
    obtain ⟨a, rfl, rfl⟩ := Option.map_eq_some_iff.1 e; rw [block_add]; (exact h.2 a rfl (by omega))
def AddL (w : World) (v0 : V8) (l0 : List Int) (A0 : Option Addr) (n0 c0 : Nat) (M : Int) (s : Value) (wr : World) : Prop :=
  ∃ (x : V8) (l : List Int) (A : Option Addr) (c : Nat), s = .slice A l.length c ∧ l.length ≤ c ∧ AddS w x A0 n0 c0 M wr ∧ RF wr w.heap.size A l.length l ∧ absorbs x l = absorbs v0 l0
def lenOf : Value → Nat
  | .slice _ n _ => n
  | _ => 0
set_option maxHeartbeats 4000000 in
set_option maxRecDepth 100000 in
theorem add_walk (v : V8) (A : Option Addr) (c : Nat) (rest : List Int) (N : Int) (Ab : Option Addr) (cb : Nat) (b : List Int) (w : World) (hG : Aside0 (GW w))
    (hr : Kd.C (Kd.int .u8) w A rest.length rest) (hc : rest.length ≤ c) (hrb : Kd.C (Kd.int .u8) w Ab b.length b) (hcb : b.length ≤ cb) (hl : rest.length + b.length < 140737488355328) (hok : addOk rest N b.length = true) :
    Calls Tryd.prog 81 #[St v A rest.length c N, .slice Ab b.length cb] w fun e w' => ∃ v1 : Value, e = .returned (.agg #[.int .u32 (absorbs v (rest ++ b)).1.a, .int .u32 (absorbs v (rest ++ b)).1.b, .int .u32 (absorbs v (rest ++ b)).1.c, .int .u32 (absorbs v (rest ++ b)).1.d, .int .u32 (absorbs v (rest ++ b)).1.e, .int .u32 (absorbs v (rest ++ b)).1.f, .int .u32 (absorbs v (rest ++ b)).1.g, .int .u32 (absorbs v (rest ++ b)).1.h, v1, .int .i64 (N + b.length)]) ∧
      Kd.R (Kd.int .u8) 5 w' w.heap.size (fun _ => True) v1 (absorbs v (rest ++ b)).2 ∧ Below w.heap.size w w' := by
  have HR := Aside0.mk hr; have HRb := Aside0.mk hrb; clear hr hrb; (have ho1 : rightB rest.length N = true := by simp only [addOk, Bool.and_eq_true] at hok; exact hok.1); (have ho2 : N + b.length ≤ 1099511627776 := by simp only [addOk, Bool.and_eq_true, decide_eq_true_eq] at hok; exact hok.2); obtain ⟨hN0, hN1, hN2⟩ := rightB_spec.1 ho1; have HO := Lib.hid ho1; have HN := Lib.hid hN2; have HP := Aside0.mk hok; (have hd : decide (1099511627776 < N + (b.length : Int)) = false := decide_eq_false (by omega)); obtain ⟨l0, hl0⟩ : ∃ l0, rest ++ b = l0 := ⟨_, rfl⟩; rw [hl0]; have HL0 := Lib.hid hl0; (have hlen : l0.length < 140737488355328 := by rw [← hl0, List.length_append]; exact hl); clear hok ho1 hN2 hl0; unfold St; go_enter Tryd.func81, Tryd.ntmps81; have S0 := AddS.begin w v A rest.length c N #[.int .u32 0, .int .u32 0, .int .u32 0, .int .u32 0, .int .u32 0, .int .u32 0, .int .u32 0, .int .u32 0, .slice none 0 0, .int .i64 0] rfl; (go_wp2_with (first | (go_at_call 90; refine (right_any v _ _ _ _ _).mono ?_; rintro e w1 ⟨rfl, hb1⟩; rw [HO.out]; have S1 := S0.step hb1; clear S0 hb1; have c9 : w1.cell? ⟨w.heap.size, 9, none⟩ = some (.int .i64 N) := S1.cell 9) | ((with_reducible refine gate_dst (N := 18) rfl ?_); refine Kd.R_lit (Kd.int .u8) w.heap.size 5 rfl (N := 18) rfl (xs := ([] : List Int)) (inner := []) (ok := fun _ => True) (okp := fun _ => True) ?hr (Reps.none _ _) (fun _ hk => hk) trivial S1.below S1.below.size (by simp) ?_; (case hr => first | (go_simp; done) | (go_simp; rfl)); intro v18 w4 ho_ hb_ hg_ hat_; have S2 := S1.grown hg_ (by simp) (by simp) hb_; have HO18 := Aside0.mk ho_; clear hb_ hg_ hat_ ho_; have c8_ : w4.cell? ⟨w.heap.size, 8, none⟩ = some (.slice A rest.length c) := S2.cell 8) | ((with_reducible refine gate_builtin (b := .append) (xs := #[.tmp 18, .tmp 20]) rfl ?_); at_builtin; refine Kd.R_append_rows (Kd.int .u8) (w0 := w) w.heap.size rfl (.tmp 18) (.tmp 20) 41 5 (.int .u8 0) 1 rfl Tryd.underlying41 info8 rfl (by decide) (by omega) v18 [] rest _ _ _ (fun _ => True) (fun _ => False) rfl rfl HO18.out (Kd.C_below HR.out S2.below) (fun _ _ h => h) (fun _ h => h.elim) (fun _ _ => trivial) S2.below S2.below.size (by first | (simp; done) | (simp; omega)) ?_; intro v21 w5 HO210 hb_ hg_ hat_; have S3 := S2.app HO18.out hg_ hb_; have HO21 := Aside0.mk HO210; clear hb_ hg_ hat_ HO210 HO18; clear c8_) | ((with_reducible refine gate_builtin (b := .append) (xs := #[.tmp 21, .tmp 22]) rfl ?_); at_builtin; refine Kd.R_append_rows (Kd.int .u8) (w0 := w) w.heap.size rfl (.tmp 21) (.tmp 22) 41 5 (.int .u8 0) 1 rfl Tryd.underlying41 info8 rfl (by decide) (by omega) v21 ([] ++ rest) b _ _ _ (fun _ => True) (fun _ => False) rfl rfl HO21.out (Kd.C_below HRb.out S3.below) (fun _ _ h => h) (fun _ h => h.elim) (fun _ _ => trivial) S3.below S3.below.size (by first | (simp; done) | (simp; omega)) ?_; intro v23 w6 HO230 hb_ hg_ hat_; have S4 := S3.app HO21.out hg_ hb_; have HO23 := Aside0.mk HO230; clear hb_ hg_ hat_ HO230 HO21; have c9_ : w6.cell? ⟨w.heap.size, 9, none⟩ = some (.int .i64 N) := S4.cell 9; have f9_ := S4.b.frozen 9))); have S5 := S4.num (N + b.length); (have HO24 : Kd.R (Kd.int .u8) 5 w6 w.heap.size (fun _ => True) v23 l0 := by have h := HO23.out; rw [List.nil_append, HL0.out] at h; exact h); obtain ⟨A5, c5, rfl, hc5, F5⟩ := RF.of_own HO24 S4.b; have F6 := F5.set_ 9 (.int .i64 (N + b.length)); clear F5 HO23 HO24 S4 c9_ f9_ HR HRb c9 S3 S2 S1; (generalize World.setCell _ _ _ = w7 at S5 F6 ⊢); (go_loopw [5] (fun s wr => AddL w v l0 A rest.length c (N + b.length) s wr) (fun s _ => lenOf s))
  case atStart => exact ⟨v, l0, A5, c5, rfl, hc5, S5, F6, rfl⟩
  case round =>
    clear S5 F6 hc5; obtain ⟨x, l, A', c', rfl, hc', S, F, HE⟩ := hrel; have HE' := Lib.hid HE; clear HE
    by_cases h64 : 64 ≤ l.length
    · obtain ⟨ad, rfl, hcell⟩ := F.1.2.2 (by omega)
      have d0_ : wr.cell? ⟨w.heap.size, 0, none⟩ = some (.int .u32 x.a) := S.cell 0; have d1_ : wr.cell? ⟨w.heap.size, 1, none⟩ = some (.int .u32 x.b) := S.cell 1; have d2_ : wr.cell? ⟨w.heap.size, 2, none⟩ = some (.int .u32 x.c) := S.cell 2; have d3_ : wr.cell? ⟨w.heap.size, 3, none⟩ = some (.int .u32 x.d) := S.cell 3; have d4_ : wr.cell? ⟨w.heap.size, 4, none⟩ = some (.int .u32 x.e) := S.cell 4; have d5_ : wr.cell? ⟨w.heap.size, 5, none⟩ = some (.int .u32 x.f) := S.cell 5; have d6_ : wr.cell? ⟨w.heap.size, 6, none⟩ = some (.int .u32 x.g) := S.cell 6; have d7_ : wr.cell? ⟨w.heap.size, 7, none⟩ = some (.int .u32 x.h) := S.cell 7; obtain ⟨i8, hi8, hs8⟩ := info8i; (have hsl := cut_to (P := Tryd.prog) 41 5 .i64 Tryd.underlying41 hi8 (some ad) l.length c' 64 (by decide) (by omega) hc'); (have hsd := cut_from (P := Tryd.prog) 41 5 .i64 Tryd.underlying41 hi8 1 hs8 (some ad) l.length c' 64 (by decide) (by omega)); have FD := F.drop_ 64 h64 hc'; have h64i : (64 : Int).toNat = 64 := rfl; rw [h64i] at hsl hsd; simp only [Nat.mul_one] at hsd; (obtain ⟨A2, hA2⟩ : ∃ A2, (if c' = 64 then (some ad : Option Addr) else (some ad).map (·.add 64)) = A2 := ⟨_, rfl⟩); rw [hA2] at FD; (have hsd2 : ∀ W : World, (Instr.slice 41 (.slice (some ad) l.length c') (some (.int .i64 64)) none none).run Tryd.prog W = .ok (.slice A2 (l.length - 64) (c' - 64)) W := fun W => by rw [hsd W, hA2]); have HA2 := Lib.hid hA2; clear hA2 hsd h64i hi8 hs8
      have HC := Aside0.mk (fun (i : Nat) (hi : i < 64) => (show wr.cell? (ad.add i) = some (.int .u8 (rd (l.take 64) i)) from by
        (rw [hcell i (by omega)]); unfold rd
        simp [List.getD_eq_getElem?_getD, List.getElem?_take, hi]))
      clear hcell; have hdd : decide (64 ≤ l.length) = true := decide_eq_true h64; (have hdi : decide ((64 : Int) ≤ (l.length : Int)) = true := decide_eq_true (by omega)); go_wp2; (go_still_tail 4, (by kernel_rfl)); change wpList _ _ _ _ _ wr.drew; (go_wp2_with (first | (go_at_call 91; refine (mix_any x (l.take 64) ad c' _ (by simp; omega) ((gw_step hG (show Below w.heap.size w wr.drew from S.below.drew)).out) (fun i hi => HC.out i hi)).mono ?_; rintro e w5 ⟨rfl, hb5⟩; have S5 := (show AddS w x A rest.length c (N + b.length) wr.drew from S.drewN 1).step hb5; have F5 := (show RF wr.drew w.heap.size A2 (l.length - 64) (l.drop 64) from FD).below hb5) | (refine wpList_store_part rfl 101 _ _ rfl w.heap.size #[_, _, _, _, _, _, _, _] rfl rfl 103 _ S5.b size8 (show (8 : Nat) ≤ 10 from by decide) (mem8 _ _ _ _ _ _ _ _) ?_))); go_roundw
      case rel => exact ⟨mix x (l.take 64), l.drop 64, A2, c' - 64, by rw [List.length_drop], by rw [List.length_drop]; omega, S5.row _, by rw [List.length_drop]; exact F5.row _, by rw [← HE'.out]; exact (absorbs_step h64).symm⟩
      case measure => simp [lenOf]; omega
    · have hlt : l.length < 64 := by omega
      (have E : absorbs v l0 = (x, l) := by rw [← HE'.out]; exact absorbs_end hlt); have E2 := Lib.hid E; clear E; have hdd : decide (64 ≤ l.length) = false := decide_eq_false h64; (have hdi : decide ((64 : Int) ≤ (l.length : Int)) = false := decide_eq_false (by omega)); obtain ⟨wo, rfl⟩ : ∃ wo : World, wo = wr := ⟨_, rfl⟩; (go_wp2_with (first | ((with_reducible refine gate_dst (N := 41) rfl ?_); refine Kd.R_lit (Kd.int .u8) w.heap.size 5 rfl (N := 41) rfl (xs := ([] : List Int)) (inner := []) (ok := fun _ => True) (okp := fun _ => True) ?hr2 (Reps.none _ _) (fun _ hk => hk) trivial S.below S.below.size (by simp) ?_; (case hr2 => first | (go_simp; done) | (go_simp; rfl)); intro v41 w4 ho_ hb_ hg_ hat_; have S2 := S.grown hg_ (by simp) (by simp) hb_; have F2 := F.keep (fun p _ hp => World.cell?_of_block (hg_.block p.block hp (by simp))) hg_.size; have HO41 := Aside0.mk ho_; clear hb_ hg_ hat_ ho_) | ((with_reducible refine gate_builtin (b := .append) (xs := #[.tmp 41, .tmp 42]) rfl ?_); at_builtin; refine Kd.R_append_rows (Kd.int .u8) (w0 := w) w.heap.size rfl (.tmp 41) (.tmp 42) 41 5 (.int .u8 0) 1 rfl Tryd.underlying41 info8 rfl (by decide) (by omega) v41 [] l _ _ _ (fun _ => True) (fun _ => False) rfl rfl HO41.out (Kd.C_of_reads (d := (0 : Int)) (h1 := fun _ => rfl) F2.1) (fun _ _ h => h) (fun _ h => h.elim) (fun _ _ => trivial) S2.below S2.below.size (by first | (simp; done) | (simp; omega)) ?_; intro v43 w5 ho_ hb_ hg_ hat_; have S3 := S2.app HO41.out hg_ hb_; obtain ⟨A43, c43, rfl, hc43, hC43⟩ := Kd.R_reads ho_; have HO43 := Aside0.mk ho_; clear hb_ hg_ hat_ ho_ HO41 hC43; have S4 := S3.rest (A' := A43) (n' := l.length) (c' := c43); have c8_ : w5.cell? ⟨w.heap.size, 8, none⟩ = some (.slice A rest.length c) := S3.cell 8; have f8_ := S3.b.frozen 8) | (refine wpList_load_row rfl 103 _ rfl w.heap.size rfl 103 (stCells x A43 l.length c43 (N + b.length)) _ _ S4.b Tryd.underlying103 rfl size10 ?_) | (obtain ⟨zs, hzs, hz⟩ := S4.z; refine wpList_store_row rfl 103 _ _ rfl (w.heap.size + 1) (stCells x A43 l.length c43 (N + b.length)) rfl rfl 103 zs hz size10 hzs (by simp [stCells, Value.oneCell']) ?_)))
      exact bodyPost_ret (v := .agg (stCells x A43 l.length c43 (N + b.length))) (results_cell_row (fn := Tryd.f81) rfl _ _ (w.heap.size + 1) 103 _ (0, 0) _ rfl (blk_row hz) Tryd.underlying103 rfl size10) rfl
        ⟨.slice A43 l.length c43, by rw [E2.out]; rfl, by rw [E2.out]; exact R_row (Kd.R_set HO43.out S3.b (by decide) 8 _) hz (by decide), below_row S4.below (by omega)⟩
end Go.Proofs.YtpmefpdafkbphaaDoor.HSha

import Derived.Test.YtpmefpdafkbphaaDoorZaPP
import Derived.Test.YtpmefpdafkbphaaDoorZaHCmp
namespace Go.Proofs.YtpmefpdafkbphaaDoor.HProve
open Go.RowKit Go.Proofs.YtpmefpdafkbphaaDoor Go.Proofs.YtpmefpdafkbphaaDoor.HSha Go.Proofs.YtpmefpdafkbphaaDoor.PS Go.Proofs.YtpmefpdafkbphaaDoor.PB Go.Proofs.YtpmefpdafkbphaaDoor.PP Go.Proofs.YtpmefpdafkbphaaDoorW.PrintWords Go.Proofs.YtpmefpdafkbphaaDoorW.PrintLast Go.Proofs.YtpmefpdafkbphaaDoorW.PrintMore
set_option linter.unusedVariables false
set_option linter.unusedSimpArgs false
theorem info9 : (Tryd.prog.info? 9).map (fun i => (i.zero, i.size, i.bytes)) = some (some (.string ⟨#[]⟩), 1, 16) := by kernel_rfl
set_option maxHeartbeats 8000000 in
set_option maxRecDepth 100000 in
theorem put.calls (k : Nat) (A : Option Addr) (c : Nat) (l : List ByteArray) (g : Nat) (u : Value) (xs : List ByteArray) (d : ByteArray) (er : Int) (w W : World) (hG_ : Aside0 (GW w)) (hB : Below w.heap.size w W) (hr : Kd.C Kd.string w A l.length l) (hc : l.length ≤ c) (hg : w.heap.size ≤ g)
    (hbox : W.heap[g]? = some (.cells #[u] 22 (0, 0))) (hR : Kd.R Kd.string 9 W w.heap.size (fun _ => True) u xs) (hx : xs.length < 8796093022208) (h : tree_Root.f k l = some (d, er)) :
    Calls Tryd.prog 48 #[.slice A l.length c, .pointer (some ⟨g, 0, none⟩)] W fun e w' => ∃ u' : Value, e = .returned (.tuple #[]) ∧ w'.heap[g]? = some (.cells #[u'] 22 (0, 0)) ∧ Kd.R Kd.string 9 w' w.heap.size (fun _ => True) u' (xs ++ [d]) ∧ Below w.heap.size w w' := by
  have HR0 := Aside0.mk hr
  have HC0 := Aside0.mk hc
  have HB := Aside0.mk hB
  have GE := Aside0.mk hg
  have BK := Aside0.mk hbox
  have HO := Aside0.mk hR
  have A9 := Aside0.mk h
  have LM := Aside0.mk hx
  clear hr hc hB hg hbox hR h hx
  go_enter Tryd.func48, Tryd.ntmps48
  go_upto_region 1 with (first | ((with_reducible refine gate_callee (f := 24) rfl ?_); refine goesL_ (some 7) rfl rfl Tryd.func24 (by kernel_rfl) rfl #[.slice A l.length c] rfl (by (try simp only [List.map_toArray, List.map_cons, List.map_nil]); first | done | rfl | (simp only [List.length_drop, List.length_take]; rfl)) ?_; (with_reducible refine (tree_Root.calls k _ _ l d er _ ?side3 ?side1 ?side2 A9.out).mono ?_); (case side1 => repeat (first | exact (Kd.C_below HR0.out HB.out) | (with_reducible refine Kd.C_alloc ?_ _) | (with_reducible refine Kd.C_drewN ?_ _) | (with_reducible refine Kd.C_drew ?_))); (case side2 => exact HC0.out); (case side3 => exact gw_step hG_ (by repeat (first | (with_reducible first | exact HB.out | apply below_alloc | apply pw_below_drewN | apply below_drew1) | exact HB.out))); rintro e w1 ⟨rfl, hb⟩; refine ⟨_, rfl, ?_⟩; have n0_ := Aside0.mk (HCmp.rB HO.out hb); have n1_ := Aside0.mk (HCmp.kB BK.out hb); have n2_ := Aside0.mk (HCmp.bS HB.out hb); clear HO; clear BK; clear HB; have HO := n0_; have BK := n1_; have HB := n2_; clear n0_ n1_ n2_; (try clear hb)))
  have hcz : w1.cell? ⟨g, 0, none⟩ = some u := (blk_cell BK.out 0).trans rfl
  have hfz := blk_frozen BK.out 0
  go_wp2_with (first | ((with_reducible refine gate_builtin (b := .append) (xs := #[.tmp 10, .tmp 12]) rfl ?_); at_builtin; refine Kd.R_append Kd.string (w0 := w) w.heap.size rfl (.tmp 10) (.tmp 12) 22 9 (.string ⟨#[]⟩) 16 rfl Tryd.underlying22 info9 rfl (by decide) (by omega) u xs d [.string d] (fun _ => True) (fun _ => False) rfl rfl ?aP (fun _ hk => hk.elim) ?aF ?aO ?aB ?aS ?aL ?_; (case aP => exact rfl); (case aB => exact (by repeat (first | (with_reducible first | exact HB.out | apply below_alloc | apply pw_below_drewN | apply below_drew1) | exact HB.out))); (case aF => exact (fun _ _ => trivial)); (case aO => exact (by (with_reducible repeat (first | apply Kd.R_alloc | apply Kd.R_drewN | apply Kd.R_drew)); exact HO.out)); (case aS => exact (below_size (by repeat (first | (with_reducible first | exact HB.out | apply below_alloc | apply pw_below_drewN | apply below_drew1) | exact HB.out)))); (case aL => have := LM.out; omega); intro v2 w2 ho hb hg hat; have n0_ := Aside0.mk hb; have n1_ := Aside0.mk ho; have n2_ := Aside0.mk (blk_grown (g := g) (o := .cells #[u] 22 (0, 0)) (by (with_reducible repeat (first | refine blk_drewN ?_ _ | refine blk_drew ?_ | refine blk_alloc ?_ _)); exact BK.out) hg (Kd.R_ne HO.out BK.out (by decide))); clear HB; clear HO; clear BK; have HB := n0_; have HO := n1_; have BK := n2_; clear n0_ n1_ n2_; clear ho hb hg hat; obtain ⟨Ao, co, eo⟩ := Kd.R_slice HO.out; subst eo; have hcz2 : w2.cell? ⟨g, 0, none⟩ = some u := (blk_cell BK.out 0).trans rfl; have hfz2 := blk_frozen BK.out 0))
  refine bodyPost_end (results_none (by kernel_rfl) _ _ _) rfl ?_
  refine ⟨.slice Ao (xs.length + 1) co, rfl, ?_, ?_, below_set HB.out GE.out⟩
  · exact blk_put (cs := #[u]) BK.out 0 _ rfl
  · have e : (xs ++ [d]).length = xs.length + 1 := by simp
    rw [e] at HO
    exact Kd.R_mono (Kd.R_far (p := ⟨g, 0, none⟩) (Kd.R_types HO.out BK.out (by decide)) (fun _ hk => hk.2) _) (fun _ hk => trivial)
/-- What put answers: what lies in the variable. -/
def putF (k : Nat) (l xs : List ByteArray) : Option (List ByteArray) := (tree_Root.f k l).bind fun bt => if xs.length < 8796093022208 then some (xs ++ [bt.1]) else none
mutual
def cons_Prove.l0 : Nat → List ByteArray → Int → Bool → List ByteArray → Option (List ByteArray × Int)
  | 0, _, _, _, _ => none
  | k + 1, l, m, wh, xs => if m < (l.length : Int) then ((tree_Split.f k (l.length : Int)).bind fun s => (if 0 ≤ s then (if s ≤ (l.length : Int) then (if m ≤ s then ((putF k (l.drop s.toNat) xs).bind fun ys => cons_Prove.l0 k (l.take s.toNat) m wh ys) else ((putF k (l.take s.toNat) xs).bind fun ys => cons_Prove.l0 k (l.drop s.toNat) (wrap64 (m - s)) false ys)) else none) else none)) else (if wh = true then cons_Prove.l1 k xs [] (wrap64 ((xs.length : Int) - 1)) else ((putF k l xs).bind fun ys => cons_Prove.l1 k ys [] (wrap64 ((ys.length : Int) - 1))))
def cons_Prove.l1 : Nat → List ByteArray → List ByteArray → Int → Option (List ByteArray × Int)
  | 0, _, _, _ => none
  | k + 1, xs, out, i => if i ≥ 0 then (if i < (xs.length : Int) then (if out.length < 8796093022208 then cons_Prove.l1 k xs (out ++ [rdOf ByteArray.empty xs i]) (wrap64 (i - 1)) else none) else none) else some (out, 0)
end
def cons_Prove.f (k : Nat) (l : List ByteArray) (m : Int) : Option (List ByteArray × Int) := (cons_all.f k l).bind fun a => (if a = true then (if m < 0 then some ([], 1) else (if m > (l.length : Int) then some ([], 1) else (if m = 0 then some ([], 0) else cons_Prove.l0 k l m true []))) else some ([], 1))
theorem putF.mono (l xs : List ByteArray) (k : Nat) : LeO (putF k l xs) (putF (k + 1) l xs) := LeO.bind (tree_Root.mono l k) (fun _ => LeO.refl _)
theorem cons_Prove.mono_l : ∀ k, (∀ y0 y1 y2 y3, LeO (cons_Prove.l0 k y0 y1 y2 y3) (cons_Prove.l0 (k + 1) y0 y1 y2 y3)) ∧ (∀ y0 y1 y2, LeO (cons_Prove.l1 k y0 y1 y2) (cons_Prove.l1 (k + 1) y0 y1 y2))
  | 0 => ⟨fun _ _ _ _ r h => by simp [cons_Prove.l0] at h, fun _ _ _ r h => by simp [cons_Prove.l1] at h⟩
  | k + 1 => by
    obtain ⟨ih0, ih1⟩ := cons_Prove.mono_l k
    refine ⟨?_, ?_⟩
    · intro y0 y1 y2 y3
      unfold cons_Prove.l0
      repeat' first
      | exact ih0 _ _ _ _
      | exact ih1 _ _ _
      | exact putF.mono _ _ _
      | exact tree_Split.mono _ _
      | exact LeO.none _
      | refine LeO.ite ?_ ?_
      | refine LeO.bind ?_ (fun _ => ?_)
    · intro y0 y1 y2
      unfold cons_Prove.l1
      repeat' first
      | exact ih1 _ _ _
      | exact LeO.refl _
      | exact LeO.none _
      | refine LeO.ite ?_ ?_
theorem cons_Prove.mono : ∀ a0 a1 k, LeO (cons_Prove.f k a0 a1) (cons_Prove.f (k + 1) a0 a1) := by
  intro a0 a1 k
  have ih := (cons_Prove.mono_l k).1
  unfold cons_Prove.f
  repeat' first
  | exact ih _ _ _ _
  | exact cons_all.mono _ _
  | exact LeO.refl _
  | refine LeO.ite ?_ ?_
  | refine LeO.bind ?_ (fun _ => ?_)
set_option maxHeartbeats 8000000 in
set_option maxRecDepth 100000 in
theorem cons_Prove.calls (k : Nat) (A0 : Option Addr) (c0 : Nat) (l0 : List ByteArray) (a1 : Int) (r1 : List ByteArray) (r2 : Int) (w : World) (hG_ : Aside0 (GW w)) (hr0 : Kd.C Kd.string w A0 l0.length l0) (hc0 : l0.length ≤ c0) (h : cons_Prove.f k l0 a1 = some (r1, r2)) :
    Calls Tryd.prog 16 #[.slice A0 l0.length c0, .int .i64 a1] w fun e w' => ∃ v1_ : Value, e = .returned (.tuple #[v1_, .int .i64 r2]) ∧ Kd.R Kd.string 9 w' w.heap.size (fun _ => True) v1_ r1 ∧ Below w.heap.size w w' := by
  have HR0 := Aside0.mk hr0
  have HC0 := Aside0.mk hc0
  clear hr0 hc0
  have HB := Aside0.mk (Below.refl w.heap.size w)
  unfold cons_Prove.f at h
  obtain ⟨a, A80, h⟩ := Option.bind_eq_some_iff.mp h
  have A8 := Aside0.mk A80
  clear A80
  cases a with
  | false =>
    rw [if_neg (by decide)] at h
    simp only [Option.some.injEq, Prod.mk.injEq] at h
    obtain ⟨rfl, rfl⟩ := h
    go_enter Tryd.func16, Tryd.ntmps16
    go_wp2_with (first | ((with_reducible refine gate_callee (f := 47) rfl ?_); refine goesL_ (some 13) rfl rfl Tryd.func47 (by kernel_rfl) rfl #[.slice A0 l0.length c0] rfl (by (try simp only [List.map_toArray, List.map_cons, List.map_nil]) <;> rfl) ?_; (with_reducible refine (cons_all.calls k _ _ l0 _ _ ?side1 ?side2 A8.out).mono ?_); (case side1 => repeat (first | exact (Kd.C_below HR0.out HB.out) | (with_reducible refine Kd.C_alloc ?_ _) | (with_reducible refine Kd.C_drewN ?_ _) | (with_reducible refine Kd.C_drew ?_))); (case side2 => exact HC0.out); rintro e w' ⟨rfl, ⟨nd, rfl⟩⟩; refine ⟨_, rfl, ?_⟩))
    go_ret2
    exact ⟨_, rfl, Kd.R_nil _ _ _ _ _, (by repeat (first | (with_reducible first | exact HB.out | apply below_alloc | apply pw_below_drewN | apply below_drew1) | exact HB.out))⟩
  | true =>
    rw [if_pos rfl] at h
    by_cases c1 : a1 < 0
    · rw [if_pos c1] at h
      simp only [Option.some.injEq, Prod.mk.injEq] at h
      obtain ⟨rfl, rfl⟩ := h
      have c1b := decide_eq_true c1
      clear c1
      go_enter Tryd.func16, Tryd.ntmps16
      go_wp2_with (first | ((with_reducible refine gate_callee (f := 47) rfl ?_); refine goesL_ (some 13) rfl rfl Tryd.func47 (by kernel_rfl) rfl #[.slice A0 l0.length c0] rfl (by (try simp only [List.map_toArray, List.map_cons, List.map_nil]) <;> rfl) ?_; (with_reducible refine (cons_all.calls k _ _ l0 _ _ ?side1 ?side2 A8.out).mono ?_); (case side1 => repeat (first | exact (Kd.C_below HR0.out HB.out) | (with_reducible refine Kd.C_alloc ?_ _) | (with_reducible refine Kd.C_drewN ?_ _) | (with_reducible refine Kd.C_drew ?_))); (case side2 => exact HC0.out); rintro e w' ⟨rfl, ⟨nd, rfl⟩⟩; refine ⟨_, rfl, ?_⟩))
      go_ret2
      exact ⟨_, rfl, Kd.R_nil _ _ _ _ _, (by repeat (first | (with_reducible first | exact HB.out | apply below_alloc | apply pw_below_drewN | apply below_drew1) | exact HB.out))⟩
    rw [if_neg c1] at h
    have c1b := decide_eq_false c1
    clear c1
    by_cases c2 : a1 > (l0.length : Int)
    · rw [if_pos c2] at h
      simp only [Option.some.injEq, Prod.mk.injEq] at h
      obtain ⟨rfl, rfl⟩ := h
      have c2b := decide_eq_true c2
      have c2c : decide (a1 > (l0.length : Int)) = true := decide_eq_true c2
      clear c2
      go_enter Tryd.func16, Tryd.ntmps16
      go_wp2_with (first | ((with_reducible refine gate_callee (f := 47) rfl ?_); refine goesL_ (some 13) rfl rfl Tryd.func47 (by kernel_rfl) rfl #[.slice A0 l0.length c0] rfl (by (try simp only [List.map_toArray, List.map_cons, List.map_nil]) <;> rfl) ?_; (with_reducible refine (cons_all.calls k _ _ l0 _ _ ?side1 ?side2 A8.out).mono ?_); (case side1 => repeat (first | exact (Kd.C_below HR0.out HB.out) | (with_reducible refine Kd.C_alloc ?_ _) | (with_reducible refine Kd.C_drewN ?_ _) | (with_reducible refine Kd.C_drew ?_))); (case side2 => exact HC0.out); rintro e w' ⟨rfl, ⟨nd, rfl⟩⟩; refine ⟨_, rfl, ?_⟩))
      go_ret2
      exact ⟨_, rfl, Kd.R_nil _ _ _ _ _, (by repeat (first | (with_reducible first | exact HB.out | apply below_alloc | apply pw_below_drewN | apply below_drew1) | exact HB.out))⟩
    rw [if_neg c2] at h
    have c2b : decide (a1 > (l0.length : Int)) = false := decide_eq_false c2
    have c2d : decide ((l0.length : Int) < a1) = false := decide_eq_false c2
    clear c2
    by_cases c3 : a1 = 0
    · rw [if_pos c3] at h
      simp only [Option.some.injEq, Prod.mk.injEq] at h
      obtain ⟨rfl, rfl⟩ := h
      have c3b : (a1 == 0) = true := beq_iff_eq.mpr c3
      clear c3
      go_enter Tryd.func16, Tryd.ntmps16
      go_wp2_with (first | ((with_reducible refine gate_callee (f := 47) rfl ?_); refine goesL_ (some 13) rfl rfl Tryd.func47 (by kernel_rfl) rfl #[.slice A0 l0.length c0] rfl (by (try simp only [List.map_toArray, List.map_cons, List.map_nil]) <;> rfl) ?_; (with_reducible refine (cons_all.calls k _ _ l0 _ _ ?side1 ?side2 A8.out).mono ?_); (case side1 => repeat (first | exact (Kd.C_below HR0.out HB.out) | (with_reducible refine Kd.C_alloc ?_ _) | (with_reducible refine Kd.C_drewN ?_ _) | (with_reducible refine Kd.C_drew ?_))); (case side2 => exact HC0.out); rintro e w' ⟨rfl, ⟨nd, rfl⟩⟩; refine ⟨_, rfl, ?_⟩))
      go_ret2
      exact ⟨_, rfl, Kd.R_nil _ _ _ _ _, (by repeat (first | (with_reducible first | exact HB.out | apply below_alloc | apply pw_below_drewN | apply below_drew1) | exact HB.out))⟩
    rw [if_neg c3] at h
    have c3b : (a1 == 0) = false := beq_eq_false_iff_ne.mpr c3
    clear c3
    have H' := Aside0.mk h
    clear h
    go_enter Tryd.func16, Tryd.ntmps16
    go_wp2_with (first | ((with_reducible refine gate_callee (f := 47) rfl ?_); refine goesL_ (some 13) rfl rfl Tryd.func47 (by kernel_rfl) rfl #[.slice A0 l0.length c0] rfl (by (try simp only [List.map_toArray, List.map_cons, List.map_nil]) <;> rfl) ?_; (with_reducible refine (cons_all.calls k _ _ l0 _ _ ?side1 ?side2 A8.out).mono ?_); (case side1 => repeat (first | exact (Kd.C_below HR0.out HB.out) | (with_reducible refine Kd.C_alloc ?_ _) | (with_reducible refine Kd.C_drewN ?_ _) | (with_reducible refine Kd.C_drew ?_))); (case side2 => exact HC0.out); rintro e w' ⟨rfl, ⟨nd, rfl⟩⟩; refine ⟨_, rfl, ?_⟩) | ((with_reducible refine gate_dst (N := 6) rfl ?_); (try (refine gate_guard (by rfl) ?_; dsimp only)); refine box_event ?hg (N := 6) ?hd (cs := #[.slice none 0 0]) (t := 22) ?hr ?_; (case hd => rfl); (case hg => rfl); (case hr => first | (go_simp; done) | (go_simp; rfl)); intro gb hg w2 hbox hb; have n4_ := Aside0.mk (HCmp.bS HB.out hb); have n5_ := Aside0.mk (hbox); have n7_ := Aside0.mk ((by rw [hg]; exact (below_size (by repeat (first | (with_reducible first | exact HB.out | apply below_alloc | apply pw_below_drewN | apply below_drew1) | exact HB.out)))) : w.heap.size ≤ gb); clear HB; have HB := n4_; have BK := n5_; have GE := n7_; clear n4_ n5_ n7_; clear hb hbox hg))
    go_loopg [0, 1, 7] k (fun kq v0 v1 v7 w' => ∃ (A : Option Addr) (c : Nat) (l : List ByteArray) (m : Int) (wh : Bool) (xs : List ByteArray) (u : Value), v0 = .slice A l.length c ∧ v1 = .int .i64 m ∧ v7 = .bool wh ∧ Aside0 (cons_Prove.l0 kq l m wh xs = some (r1, r2)) ∧ Aside0 (kq ≤ k) ∧ Aside0 (Kd.C Kd.string w A l.length l) ∧ Aside0 (l.length ≤ c) ∧ Aside0 (Kd.R Kd.string 9 w' w.heap.size (fun _ => True) u xs) ∧ Aside0 (w'.heap[gb]? = some (.cells #[u] 22 (0, 0))) ∧ Aside0 (Below w.heap.size w w'))
    case atStart => exact ⟨A0, c0, l0, a1, true, [], .slice none 0 0, rfl, rfl, rfl, H', ⟨Nat.le_refl _⟩, HR0, HC0, ⟨Kd.R_nil _ _ _ _ _⟩, BK, HB⟩
    case round =>
      clear H'
      clear BK HB
      obtain ⟨A, c, l, m, wh, xs, u, rfl, rfl, rfl, HA, HK, HR, HC, HO, BK, HB⟩ := hrel
      cases gk with
      | zero => exact absurd HA.out (by simp [cons_Prove.l0])
      | succ k1 =>
        have H := HA.out
        clear HA
        simp only [cons_Prove.l0] at H
        by_cases d1 : m < (l.length : Int)
        · rw [if_pos d1] at H
          have d1b : decide (m < (l.length : Int)) = true := decide_eq_true d1
          clear d1
          obtain ⟨s, A90, H⟩ := Option.bind_eq_some_iff.mp H
          have A9 := Aside0.mk A90
          clear A90
          by_cases d2 : 0 ≤ s
          rotate_left
          · rw [if_neg d2] at H; cases H
          rw [if_pos d2] at H
          by_cases d3 : s ≤ (l.length : Int)
          rotate_left
          · rw [if_neg d3] at H; cases H
          rw [if_pos d3] at H
          obtain ⟨i0, hi0, _, hsz0, _⟩ := info_parts info9
          obtain ⟨B, hBe⟩ : ∃ B : Option Addr, B = (if c = s.toNat then A else A.map (·.add (s.toNat * 1))) := ⟨_, rfl⟩
          have hcf := cut_from (P := Tryd.prog) 22 9 .i64 Tryd.underlying22 hi0 1 hsz0 A l.length c s d2 d3
          rw [← hBe, show l.length - s.toNat = (l.drop s.toNat).length from List.length_drop.symm] at hcf
          have hct := cut_to (P := Tryd.prog) 22 9 .i64 Tryd.underlying22 hi0 A l.length c s d2 d3 HC.out
          have hlt : (l.take s.toNat).length = s.toNat := by rw [List.length_take]; omega
          have hct2 : ∀ W : World, (Instr.slice 22 (.slice A l.length c) none (some (.int .i64 s)) none).run Tryd.prog W = .ok (.slice A (l.take s.toNat).length c) W := fun W => by rw [hlt]; exact hct W
          have HRf := Aside0.mk (show Kd.C Kd.string w B (l.drop s.toNat).length (l.drop s.toNat) from by rw [hBe]; exact Kd.C_drop HR.out (by omega) HC.out)
          have HCf := Aside0.mk (show (l.drop s.toNat).length ≤ c - s.toNat from by rw [List.length_drop]; have := HC.out; omega)
          have HRt := Aside0.mk (Kd.C_take (m := s.toNat) HR.out (by omega))
          have HCt := Aside0.mk (show (l.take s.toNat).length ≤ c from by rw [hlt]; have := HC.out; omega)
          clear hct hi0 hsz0 hBe hlt
          obtain ⟨lf, hlf⟩ : ∃ lf, lf = l.drop s.toNat := ⟨_, rfl⟩
          obtain ⟨lt, hlt⟩ : ∃ lt, lt = l.take s.toNat := ⟨_, rfl⟩
          rw [← hlf, ← hlt] at H
          rw [← hlf] at hcf HRf HCf
          rw [← hlt] at hct2 HRt HCt
          clear hlf hlt d2 d3
          by_cases d4 : m ≤ s
          · rw [if_pos d4] at H
            have d4b : decide (m ≤ s) = true := decide_eq_true d4
            clear d4
            obtain ⟨ys, A100, H⟩ := Option.bind_eq_some_iff.mp H
            unfold putF at A100
            obtain ⟨⟨d, er⟩, At, A100⟩ := Option.bind_eq_some_iff.mp A100
            have A10 := Aside0.mk At
            clear At
            split at A100
            rotate_left
            · cases A100
            · next hx =>
              have LM := Aside0.mk hx
              obtain rfl : xs ++ [d] = ys := Option.some.inj A100
              clear A100 hx
              have H' := Aside0.mk H
              clear H
              go_wp2_with (first | ((with_reducible refine gate_callee (f := 49) rfl ?_); refine goesL_ (some 34) rfl rfl Tryd.func49 (by kernel_rfl) rfl #[.int .i64 (l.length : Int)] rfl (by (try simp only [List.map_toArray, List.map_cons, List.map_nil]) <;> rfl) ?_; (with_reducible refine (tree_Split.calls k1 (l.length : Int) s _ A9.out).mono ?_); rintro e w' ⟨rfl, ⟨nd, rfl⟩⟩; refine ⟨_, rfl, ?_⟩) | (go_at_call 48; (refine (put.calls k1 B (c - s.toNat) lf gb u xs d er w _ hG_ ?hB ?hr ?hc GE.out ?hbox ?hR LM.out A10.out).mono ?_); (case hB => exact (by repeat (first | (with_reducible first | exact HB.out | apply below_alloc | apply pw_below_drewN | apply below_drew1) | exact HB.out))); (case hr => exact HRf.out); (case hc => exact HCf.out); (case hbox => exact (by (with_reducible repeat (first | refine blk_drewN ?_ _ | refine blk_drew ?_ | refine blk_alloc ?_ _)); exact BK.out)); (case hR => exact (by (with_reducible repeat (first | apply Kd.R_alloc | apply Kd.R_drewN | apply Kd.R_drew)); exact HO.out)); rintro e w5 ⟨u', rfl, hbox, hR, hb⟩; have n0_ := Aside0.mk hbox; have n1_ := Aside0.mk hR; have n2_ := Aside0.mk hb; clear BK HO HB; have BK := n0_; have HO := n1_; have HB := n2_; clear n0_ n1_ n2_; clear hbox hR hb))
              go_roundg k1
              case measure => omega
              case rel => exact ⟨A, c, lt, m, wh, xs ++ [d], _, rfl, rfl, rfl, H', ⟨by have := HK.out; omega⟩, HRt, HCt, HO, BK, HB⟩
          · rw [if_neg d4] at H
            have d4b : decide (m ≤ s) = false := decide_eq_false d4
            clear d4
            obtain ⟨ys, A100, H⟩ := Option.bind_eq_some_iff.mp H
            unfold putF at A100
            obtain ⟨⟨d, er⟩, At, A100⟩ := Option.bind_eq_some_iff.mp A100
            have A10 := Aside0.mk At
            clear At
            split at A100
            rotate_left
            · cases A100
            · next hx =>
              have LM := Aside0.mk hx
              obtain rfl : xs ++ [d] = ys := Option.some.inj A100
              clear A100 hx
              have H' := Aside0.mk H
              clear H
              go_wp2_with (first | ((with_reducible refine gate_callee (f := 49) rfl ?_); refine goesL_ (some 34) rfl rfl Tryd.func49 (by kernel_rfl) rfl #[.int .i64 (l.length : Int)] rfl (by (try simp only [List.map_toArray, List.map_cons, List.map_nil]) <;> rfl) ?_; (with_reducible refine (tree_Split.calls k1 (l.length : Int) s _ A9.out).mono ?_); rintro e w' ⟨rfl, ⟨nd, rfl⟩⟩; refine ⟨_, rfl, ?_⟩) | (go_at_call 48; (refine (put.calls k1 A c lt gb u xs d er w _ hG_ ?hB ?hr ?hc GE.out ?hbox ?hR LM.out A10.out).mono ?_); (case hB => exact (by repeat (first | (with_reducible first | exact HB.out | apply below_alloc | apply pw_below_drewN | apply below_drew1) | exact HB.out))); (case hr => exact HRt.out); (case hc => exact HCt.out); (case hbox => exact (by (with_reducible repeat (first | refine blk_drewN ?_ _ | refine blk_drew ?_ | refine blk_alloc ?_ _)); exact BK.out)); (case hR => exact (by (with_reducible repeat (first | apply Kd.R_alloc | apply Kd.R_drewN | apply Kd.R_drew)); exact HO.out)); rintro e w5 ⟨u', rfl, hbox, hR, hb⟩; have n0_ := Aside0.mk hbox; have n1_ := Aside0.mk hR; have n2_ := Aside0.mk hb; clear BK HO HB; have BK := n0_; have HO := n1_; have HB := n2_; clear n0_ n1_ n2_; clear hbox hR hb))
              go_roundg k1
              case measure => omega
              case rel => exact ⟨B, c - s.toNat, lf, wrap64 (m - s), false, xs ++ [d], _, rfl, rfl, rfl, H', ⟨by have := HK.out; omega⟩, HRf, HCf, HO, BK, HB⟩
        · rw [if_neg d1] at H
          have d1b : decide (m < (l.length : Int)) = false := decide_eq_false d1
          clear d1
          cases wh with
          | true =>
            rw [if_pos rfl] at H
            have H' := Aside0.mk H
            clear H
            obtain ⟨Ao, co, eo⟩ := Kd.R_slice HO.out
            subst eo
            have hcz := (blk_cell BK.out 0).trans (rfl : _ = some (Value.slice Ao xs.length co))
            go_wp2
            have HBS := Aside0.mk (Below.refl wr.heap.size wr)
            have HRd := Aside0.mk (Kd.R_reads' HO.out).2.2
            rename World => wS
            go_loopg [10, 11] k1 (fun kq v10 v11 w' => ∃ (out : List ByteArray) (i : Int), v11 = .int .i64 i ∧ Aside0 (cons_Prove.l1 kq xs out i = some (r1, r2)) ∧ Aside0 (kq ≤ k1) ∧ Aside0 (Kd.R Kd.string 9 w' wS.heap.size (fun _ => True) v10 out) ∧ Aside0 (Below wS.heap.size wS w'))
            case atStart => exact ⟨[], wrap64 ((xs.length : Int) - 1), rfl, H', ⟨Nat.le_refl _⟩, ⟨Kd.R_nil _ _ _ _ _⟩, HBS⟩
            case round =>
              clear HBS
              obtain ⟨out, i, rfl, HA, HK2, HO2, HBS⟩ := hrel
              cases gk with
              | zero => exact absurd HA.out (by simp [cons_Prove.l1])
              | succ k2 =>
                have H := HA.out
                clear HA
                simp only [cons_Prove.l1] at H
                by_cases e1 : i ≥ 0
                · rw [if_pos e1] at H
                  have e1b : decide (i ≥ 0) = true := decide_eq_true e1
                  by_cases e2 : i < (xs.length : Int)
                  rotate_left
                  · rw [if_neg e2] at H; cases H
                  rw [if_pos e2] at H
                  by_cases e3 : out.length < 8796093022208
                  rotate_left
                  · rw [if_neg e3] at H; cases H
                  rw [if_pos e3] at H
                  have LM2 := Aside0.mk e3
                  have H' := Aside0.mk H
                  clear H e3
                  have p1 : 0 ≤ i := e1
                  obtain ⟨ad, ea, hx⟩ := Kd.at_string HRd.out i p1 e2
                  cases ea
                  replace hx := (HBS.out.cell (World.block_lt_of_cell? wS _ hx)).trans hx
                  have hcy := (HBS.out.cell (World.block_lt_of_cell? wS _ hcz)).trans hcz
                  replace p1 := eq_true p1
                  replace e2 := eq_true e2
                  clear e1
                  go_wp2_with (first | ((with_reducible refine gate_builtin (b := .append) (xs := #[.tmp 69, .tmp 74]) rfl ?_); at_builtin; refine Kd.R_append Kd.string (w0 := wS) wS.heap.size rfl (.tmp 69) (.tmp 74) 22 9 (.string ⟨#[]⟩) 16 rfl Tryd.underlying22 info9 rfl (by decide) (by omega) u10 out (rdOf ByteArray.empty xs i) [.string (rdOf ByteArray.empty xs i)] (fun _ => True) (fun _ => False) rfl rfl ?aP (fun _ hk => hk.elim) ?aF ?aO ?aB ?aS ?aL ?_; (case aP => exact rfl); (case aB => exact (by repeat (first | (with_reducible first | exact HBS.out | apply below_alloc | apply pw_below_drewN | apply below_drew1) | exact HBS.out))); (case aF => exact (fun _ _ => trivial)); (case aO => exact (by (with_reducible repeat (first | apply Kd.R_alloc | apply Kd.R_drewN | apply Kd.R_drew)); exact HO2.out)); (case aS => exact (below_size (by repeat (first | (with_reducible first | exact HBS.out | apply below_alloc | apply pw_below_drewN | apply below_drew1) | exact HBS.out)))); (case aL => have := LM2.out; omega); intro v7_ w7 ho hb hg hat; have n0_ := Aside0.mk hb; have n1_ := Aside0.mk ho; clear HBS; clear HO2; have HBS := n0_; have HO2 := n1_; clear n0_ n1_; clear ho hb hg hat))
                  go_roundg k2
                  case measure => omega
                  case rel => exact ⟨_, wrap64 (i - 1), rfl, H', ⟨by have := HK2.out; omega⟩, HO2, HBS⟩
                · rw [if_neg e1] at H
                  have e1b : decide (i ≥ 0) = false := decide_eq_false e1
                  clear e1
                  simp only [Option.some.injEq, Prod.mk.injEq] at H
                  obtain ⟨rfl, rfl⟩ := H
                  go_wp2
                  go_ret2
                  exact ⟨_, rfl, Kd.R_lower HO2.out (below_size HB.out), below_step HB.out HBS.out⟩
          | false =>
            rw [if_neg (by decide)] at H
            obtain ⟨ys, A100, H⟩ := Option.bind_eq_some_iff.mp H
            unfold putF at A100
            obtain ⟨⟨d, er⟩, At, A100⟩ := Option.bind_eq_some_iff.mp A100
            have A10 := Aside0.mk At
            clear At
            split at A100
            rotate_left
            · cases A100
            · next hx0 =>
              have LM := Aside0.mk hx0
              have hys : xs ++ [d] = ys := Option.some.inj A100
              clear A100 hx0
              have H' := Aside0.mk H
              clear H
              go_wp2_with (first | (go_at_call 48; (refine (put.calls k1 A c l gb u xs d er w _ hG_ ?hB ?hr ?hc GE.out ?hbox ?hR LM.out A10.out).mono ?_); (case hB => exact (by repeat (first | (with_reducible first | exact HB.out | apply below_alloc | apply pw_below_drewN | apply below_drew1) | exact HB.out))); (case hr => exact HR.out); (case hc => exact HC.out); (case hbox => exact (by (with_reducible repeat (first | refine blk_drewN ?_ _ | refine blk_drew ?_ | refine blk_alloc ?_ _)); exact BK.out)); (case hR => exact (by (with_reducible repeat (first | apply Kd.R_alloc | apply Kd.R_drewN | apply Kd.R_drew)); exact HO.out)); rintro e w5 ⟨u', rfl, hbox, hR, hb⟩; rw [hys] at hR; have n0_ := Aside0.mk hbox; have n1_ := Aside0.mk hR; have n2_ := Aside0.mk hb; clear BK HO HB; have BK := n0_; have HO := n1_; have HB := n2_; clear n0_ n1_ n2_; clear hbox hR hb; obtain ⟨Ao, co, eo⟩ := Kd.R_slice HO.out; subst eo; have hcz := (blk_cell BK.out 0).trans (rfl : _ = some (Value.slice Ao ys.length co))))
              have HBS := Aside0.mk (Below.refl w5.heap.size w5)
              have HRd := Aside0.mk (Kd.R_reads' HO.out).2.2
              rename World => wS
              go_loopg [10, 11] k1 (fun kq v10 v11 w' => ∃ (out : List ByteArray) (i : Int), v11 = .int .i64 i ∧ Aside0 (cons_Prove.l1 kq ys out i = some (r1, r2)) ∧ Aside0 (kq ≤ k1) ∧ Aside0 (Kd.R Kd.string 9 w' wS.heap.size (fun _ => True) v10 out) ∧ Aside0 (Below wS.heap.size wS w'))
              case atStart => exact ⟨[], wrap64 ((ys.length : Int) - 1), rfl, H', ⟨Nat.le_refl _⟩, ⟨Kd.R_nil _ _ _ _ _⟩, HBS⟩
              case round =>
                clear HBS
                obtain ⟨out, i, rfl, HA, HK2, HO2, HBS⟩ := hrel
                cases gk with
                | zero => exact absurd HA.out (by simp [cons_Prove.l1])
                | succ k2 =>
                  have H := HA.out
                  clear HA
                  simp only [cons_Prove.l1] at H
                  by_cases e1 : i ≥ 0
                  · rw [if_pos e1] at H
                    have e1b : decide (i ≥ 0) = true := decide_eq_true e1
                    by_cases e2 : i < (ys.length : Int)
                    rotate_left
                    · rw [if_neg e2] at H; cases H
                    rw [if_pos e2] at H
                    by_cases e3 : out.length < 8796093022208
                    rotate_left
                    · rw [if_neg e3] at H; cases H
                    rw [if_pos e3] at H
                    have LM2 := Aside0.mk e3
                    have H' := Aside0.mk H
                    clear H e3
                    have p1 : 0 ≤ i := e1
                    obtain ⟨ad, ea, hx⟩ := Kd.at_string HRd.out i p1 e2
                    cases ea
                    replace hx := (HBS.out.cell (World.block_lt_of_cell? wS _ hx)).trans hx
                    have hcy := (HBS.out.cell (World.block_lt_of_cell? wS _ hcz)).trans hcz
                    replace p1 := eq_true p1
                    replace e2 := eq_true e2
                    clear e1
                    go_wp2_with (first | ((with_reducible refine gate_builtin (b := .append) (xs := #[.tmp 69, .tmp 74]) rfl ?_); at_builtin; refine Kd.R_append Kd.string (w0 := wS) wS.heap.size rfl (.tmp 69) (.tmp 74) 22 9 (.string ⟨#[]⟩) 16 rfl Tryd.underlying22 info9 rfl (by decide) (by omega) u10 out (rdOf ByteArray.empty ys i) [.string (rdOf ByteArray.empty ys i)] (fun _ => True) (fun _ => False) rfl rfl ?aP (fun _ hk => hk.elim) ?aF ?aO ?aB ?aS ?aL ?_; (case aP => exact rfl); (case aB => exact (by repeat (first | (with_reducible first | exact HBS.out | apply below_alloc | apply pw_below_drewN | apply below_drew1) | exact HBS.out))); (case aF => exact (fun _ _ => trivial)); (case aO => exact (by (with_reducible repeat (first | apply Kd.R_alloc | apply Kd.R_drewN | apply Kd.R_drew)); exact HO2.out)); (case aS => exact (below_size (by repeat (first | (with_reducible first | exact HBS.out | apply below_alloc | apply pw_below_drewN | apply below_drew1) | exact HBS.out)))); (case aL => have := LM2.out; omega); intro v7_ w7 ho hb hg hat; have n0_ := Aside0.mk hb; have n1_ := Aside0.mk ho; clear HBS; clear HO2; have HBS := n0_; have HO2 := n1_; clear n0_ n1_; clear ho hb hg hat))
                    go_roundg k2
                    case measure => omega
                    case rel => exact ⟨_, wrap64 (i - 1), rfl, H', ⟨by have := HK2.out; omega⟩, HO2, HBS⟩
                  · rw [if_neg e1] at H
                    have e1b : decide (i ≥ 0) = false := decide_eq_false e1
                    clear e1
                    simp only [Option.some.injEq, Prod.mk.injEq] at H
                    obtain ⟨rfl, rfl⟩ := H
                    go_wp2
                    go_ret2
                    exact ⟨_, rfl, Kd.R_lower HO2.out (below_size HB.out), below_step HB.out HBS.out⟩
end Go.Proofs.YtpmefpdafkbphaaDoor.HProve

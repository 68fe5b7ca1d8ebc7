import Derived.Test.YtpmefpdafkbphaaDoorZaPureCons
namespace Go.Proofs.YtpmefpdafkbphaaDoor.PureCons
open Go.RowKit Go.Proofs.YtpmefpdafkbphaaDoor.HSha Go.Proofs.YtpmefpdafkbphaaDoor.PS Go.Proofs.YtpmefpdafkbphaaDoor.PB Go.Proofs.YtpmefpdafkbphaaDoor.PC Go.Proofs.YtpmefpdafkbphaaDoor.PP Go.Proofs.YtpmefpdafkbphaaDoor.HNode Go.Proofs.YtpmefpdafkbphaaDoor.HProve Go.Proofs.YtpmefpdafkbphaaDoor.PureS Go.Proofs.YtpmefpdafkbphaaDoor.PureO Go.Proofs.YtpmefpdafkbphaaDoor.PureTree Go.Proofs.YtpmefpdafkbphaaDoor.Thy Go.Proofs.YtpmefpdafkbphaaDoor.Evl Go.Proofs.YtpmefpdafkbphaaDoorW.PrintWords Go.Proofs.YtpmefpdafkbphaaDoorW.PrintLast Go.Proofs.YtpmefpdafkbphaaDoorW.PrintMore
set_option linter.unusedVariables false
def E0 : ByteArray := ⟨#[]⟩
theorem cnodeE (a b : ByteArray) (ha : a.size = 32) (hb : b.size = 32) : Evl (fun k => cons_node.f k a b) (nodeD a b) := by
  unfold cons_node.f
  refine Evl.bind (nodeE a b) ?_
  rw [if_pos ⟨ha, hb⟩]
  exact Evl.ret _
theorem half (a : Nat) : (a : Int) / 2 = ((a / 2 : Nat) : Int) := by omega
theorem l2_loop (x y : ByteArray) (p : List ByteArray) (n i : Int) (r : ByteArray × ByteArray × Bool) : ∀ a b : Nat, Evl (fun k => cons_climb.l1 k (((s0 a b).1 / 2 : Nat) : Int) (((s0 a b).2 / 2 : Nat) : Int) x y p n (wrap64 (i + 1))) r → Evl (fun k => cons_climb.l2 k (a : Int) (b : Int) x y p n i) r := by
  intro a
  induction a using Nat.strongRecOn with
  | _ a ih =>
    intro b h
    refine Evl.step (fun _ => cons_climb.l2.eq_2 ..) ?_
    rw [i64_and1, half, half]
    by_cases h0 : a % 2 = 0
    · refine Evl.pos (by omega) ?_
      by_cases h1 : a = 0
      · subst h1
        rw [s0_zero] at h
        exact Evl.pos rfl h
      · rw [s0_go b h1 h0] at h
        exact Evl.neg (by omega) (ih (a / 2) (by omega) (b / 2) h)
    · rw [s0_odd b (by omega)] at h
      exact Evl.neg (by omega) h
theorem run_loop (p : List ByteArray) (hp : p.length ≤ 1000000000) (ok : okD p = true) : ∀ d i : Nat, i + d = p.length → ∀ (a b : Nat) (x y : ByteArray), x.size = 32 → y.size = 32 → Evl (fun k => cons_climb.l1 k (a : Int) (b : Int) x y p (p.length : Int) (i : Int)) (run nodeD E0 a b x y (p.drop i))
  | 0, i, h, a, b, x, y, hx, hy => by
    refine Evl.step (fun _ => cons_climb.l1.eq_2 ..) (Evl.neg (by omega) (Evl.ret' ?_))
    rw [List.drop_eq_nil_of_le (by omega), run]
    have : ((b : Int) == 0) = (b == 0) := by
      rw [Bool.eq_iff_iff, beq_iff_eq, beq_iff_eq]; omega
    rw [this]
  | d + 1, i, h, a, b, x, y, hx, hy => by
    have hi : i < p.length := by omega
    have hs : p[i].size = 32 := okD_mem ok (List.getElem_mem hi)
    rw [List.drop_eq_getElem_cons hi]
    refine Evl.step (fun _ => cons_climb.l1.eq_2 ..) (Evl.pos (by omega) (Evl.pos (by omega) (Evl.pos (by omega) ?_)))
    rw [rd_at _ p i hi]
    by_cases hb : b = 0
    · subst hb
      rw [run_not]
      exact Evl.pos rfl (Evl.ret _)
    refine Evl.neg (by omega) ?_
    rw [i64_and1]
    have up : (a % 2 = 1 ∨ a = b) → Evl (fun k => cons_climb.j2 k (a : Int) (b : Int) x y p[i] p (p.length : Int) (i : Int) true) (run nodeD E0 a b x y (p[i] :: p.drop (i + 1))) := fun hu => by
      rw [run_up nodeD E0 hb hu]
      refine Evl.step (fun _ => cons_climb.j2.eq_2 ..) (Evl.pos rfl (Evl.bind (cnodeE _ _ hs hx) (Evl.bind (cnodeE _ _ hs hy) (l2_loop _ _ _ _ _ _ a b ?_))))
      rw [w1 i (by omega)]
      exact run_loop p hp ok d (i + 1) (by omega) _ _ _ _ (nodeD_size _ _) (nodeD_size _ _)
    have on : ¬ (a % 2 = 1 ∨ a = b) → Evl (fun k => cons_climb.j2 k (a : Int) (b : Int) x y p[i] p (p.length : Int) (i : Int) false) (run nodeD E0 a b x y (p[i] :: p.drop (i + 1))) := fun hu => by
      rw [run_on nodeD E0 hb hu]
      refine Evl.step (fun _ => cons_climb.j2.eq_2 ..) (Evl.neg (by decide) (Evl.bind (cnodeE _ _ hy hs) ?_))
      rw [half, half, w1 i (by omega)]
      exact run_loop p hp ok d (i + 1) (by omega) _ _ _ _ hx (nodeD_size _ _)
    by_cases h1 : a % 2 = 1
    · exact Evl.pos (by omega) (up (.inl h1))
    refine Evl.neg (by omega) ?_
    by_cases h2 : a = b
    · rw [show ((a : Int) == (b : Int)) = true by rw [beq_iff_eq]; omega]
      exact up (.inr h2)
    · rw [show ((a : Int) == (b : Int)) = false by rw [beq_eq_false_iff_ne]; omega]
      exact on (by omega)
theorem l0_loop (x : ByteArray) (p : List ByteArray) (hp : p.length ≤ 100000000) (hx : x.size = 32) (ok : okD p = true) : ∀ a b : Nat, Evl (fun k => cons_climb.l0 k (x :: p) (a : Int) (b : Int)) (run nodeD E0 (s1 a b).1 (s1 a b).2 x x p) := by
  intro a
  induction a using Nat.strongRecOn with
  | _ a ih =>
    intro b
    refine Evl.step (fun _ => cons_climb.l0.eq_2 ..) ?_
    rw [i64_and1, half, half]
    by_cases h : a % 2 = 1
    · rw [s1_go b h]
      exact Evl.pos (by omega) (ih (a / 2) (by omega) (b / 2))
    · rw [s1_even b (by omega)]
      refine Evl.neg (by omega) (Evl.pos (by simp only [List.length_cons]; omega) (Evl.pos (by simp only [List.length_cons]; omega) ?_))
      exact run_loop p (by omega) ok p.length 0 (by omega) a b x x hx hx
theorem climbE (m n : Nat) (hm : 1 ≤ m) (hn : m ≤ n) (hb : n ≤ 1099511627776) (x : ByteArray) (p : List ByteArray) (hp : p.length ≤ 100000000) (hx : x.size = 32) (ok : okD p = true) : Evl (fun k => cons_climb.f k (m : Int) (n : Int) (x :: p)) (climbS nodeD E0 m n x p) := by
  unfold cons_climb.f
  rw [show wrap64 ((m : Int) - 1) = ((m - 1 : Nat) : Int) by rw [wN (by omega) (by omega)]; omega, show wrap64 ((n : Int) - 1) = ((n - 1 : Nat) : Int) by rw [wN (by omega) (by omega)]; omega]
  exact l0_loop x p hp hx ok (m - 1) (n - 1)
end Go.Proofs.YtpmefpdafkbphaaDoor.PureCons

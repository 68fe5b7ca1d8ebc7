import Derived.Test.YtjcfimnijpcjmaaDoorZaHShaD
namespace Go.Proofs.YtjcfimnijpcjmaaDoor.HConv
open Go.RowKit Go.Proofs.YtjcfimnijpcjmaaDoor.HSha Go.Proofs.YtjcfimnijpcjmaaDoorW.PrintWords Go.Proofs.YtjcfimnijpcjmaaDoorW.PrintLast Go.Proofs.YtjcfimnijpcjmaaDoorW.PrintMore
theorem freeze_cell (W : World) (p q : Addr) (n : Nat) : (W.freeze p n).cell? q = W.cell? q := by
  unfold World.freeze
  split
  · rfl
  · by_cases hb : p.block = q.block
    · simp only [World.cell?, Array.getElem?_modify, hb, if_true]
      cases hc : W.heap[q.block]? with
      | none => rfl
      | some o => cases o <;> rfl
    · simp only [World.cell?, Array.getElem?_modify, if_neg hb]
theorem freeze_below {w0 W : World} {base : Nat} (h : Below base w0 W) (p : Addr) (n : Nat) (hp : base ≤ p.block) : Below base w0 (W.freeze p n) := by
  unfold World.freeze
  split
  · exact h
  · exact ⟨h.os, h.tape, h.output, by simpa using h.size, fun i hi => by
      have hne : ¬ p.block = i := by omega
      simp only [Array.getElem?_modify, if_neg hne]
      exact h.block i hi⟩
theorem run_conv {P : Program} (t e : TypeId) (ht : P.underlying t = some (.slice e)) (he : P.underlying e = some (.int .u8)) (W : World) (g n c : Nat) (cur : Array Value) (hg : W.heap[g]? = some (.cells cur e (0, 0))) :
    (convert t t (.slice (some ⟨g, 0, none⟩) n c)).run P W = .ok (.slice (some ⟨g, 0, none⟩) n c) (W.freeze ⟨g, cur.size, none⟩ 1) := by
  have hs : W.shape? g = some (e, cur.size) := by simp [World.shape?, hg]
  simp [convert, run_underlying ht, run_underlying he, markStringish, hs, Result.andThen]
section
variable {P : Program} {ops : Array Oper} {rest : List Oper} {o : Oper} {a : Act} {Q : Exit → Act → World → Prop}
theorem conv_own {w0 W : World} {base : Nat} {A : Option Addr} {n c : Nat} {xs : List Int} {N : Tmp} (hgd : o.guard = none) (hN : o.dst = some N) (t e : TypeId) (x : Operand) (ho : o.op = .convert t t x) (ht : P.underlying t = some (.slice e)) (he : P.underlying e = some (.int .u8)) (hx : a.eval x = .slice A n c)
    (ys : List Value) (HO : W.ownsRow base e 1 (.slice A n c) n ys) (h0 : 0 < n) (HC : Kd.C (Kd.int .u8) W A n xs) (HB : Below base w0 W)
    (h : ∀ w1, Kd.C (Kd.int .u8) w1 A n xs → Below base w0 w1 → wpList P ops Q rest (a.put (some N) (.slice A n c)) w1) : wpList P ops Q (o :: rest) a W := by
  obtain ⟨_, ⟨hv, hn⟩ | ⟨g, cap, cur, hv, hb, hg, _, _, _, _⟩⟩ := HO
  · omega
  · injection hv with h1 h2 h3
    subst h1
    refine wpList_plain hgd fun K hK => ?_
    unfold Oper.wp execOp
    simp only [ho, hx, Sem.run_bind, Result.andThen_ok, run_conv t e ht he W g n c cur hg, Sem.run_pure]
    show K (a.put o.dst (.slice (some ⟨g, 0, none⟩) n c)) (W.freeze ⟨g, cur.size, none⟩ 1)
    rw [hN]
    exact hK _ _ (h _ (by
      have hr := Kd.reads_of_C (enc := Value.int .u8) (d := (0 : Int)) (h1 := fun _ => rfl) HC
      exact Kd.C_of_reads (d := (0 : Int)) (h1 := fun _ => rfl) ⟨hr.1, hr.2.1, fun hp => by
        obtain ⟨ad, e1, hc⟩ := hr.2.2 hp
        exact ⟨ad, e1, fun j hj => by rw [freeze_cell]; exact hc j hj⟩⟩) (freeze_below HB _ _ hb))
end
end Go.Proofs.YtjcfimnijpcjmaaDoor.HConv

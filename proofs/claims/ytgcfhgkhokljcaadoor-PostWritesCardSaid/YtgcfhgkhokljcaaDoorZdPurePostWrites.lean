import Derived.Test.YtgcfhgkhokljcaaDoorZdPPostWrites
import Derived.Test.YtgcfhgkhokljcaaDoorZdPurePostR
import Derived.Test.YtgcfhgkhokljcaaDoorZdPureO
namespace Go.Proofs.YtgcfhgkhokljcaaDoor.Pure
open Go.RowKit Go.Proofs.YtgcfhgkhokljcaaDoor.HSha Go.Proofs.YtgcfhgkhokljcaaDoor.PS Go.Proofs.YtgcfhgkhokljcaaDoor.PT Go.Proofs.YtgcfhgkhokljcaaDoor.PA Go.Proofs.YtgcfhgkhokljcaaDoor.PD Go.Proofs.YtgcfhgkhokljcaaDoor.PPostWrites Go.Proofs.YtgcfhgkhokljcaaDoor.Evl Go.Proofs.YtgcfhgkhokljcaaDoor.PureS Go.Proofs.YtgcfhgkhokljcaaDoor.PureO Go.Proofs.YtgcfhgkhokljcaaDoor.PurePost Go.Proofs.YtgcfhgkhokljcaaDoorW.PrintWords Go.Proofs.YtgcfhgkhokljcaaDoorW.PrintLast Go.Proofs.YtgcfhgkhokljcaaDoorW.PrintMore
set_option linter.unusedVariables false
theorem refNumE : ∀ (c v : Nat), v < 128 ^ (c + 1) → c ≤ 8 → Evl (fun k => rubrickref02_Num.f k (v : Int)) (numE v)
  | c, v, hv, hc => by
    refine Evl.step (fun _ => rubrickref02_Num.f.eq_2 ..) ?_
    by_cases h : (v : Int) < 128
    · refine Evl.pos h (Evl.ret' ?_)
      rw [numE_small (by omega), show (v : Int) % 256 = (v : Int) by omega]
    · have h9 : (128 : Nat) ^ (8 + 1) = 9223372036854775808 := by decide
      have hm : (128 : Nat) ^ (c + 1) ≤ 128 ^ (8 + 1) := Nat.pow_le_pow_right (by decide) (by omega)
      have e1 : Int.tmod (v : Int) 128 = ((v % 128 : Nat) : Int) := by rw [Int.tmod_eq_emod_of_nonneg (by omega)]; omega
      have e2 : wrap64 (Int.tdiv (v : Int) 128) = ((v / 128 : Nat) : Int) := by
        rw [Int.tdiv_eq_ediv_of_nonneg (by omega)]
        unfold wrap64; omega
      have e3 : (wrap64 (((v % 128 : Nat) : Int) + 128)) % 256 = ((v % 128 + 128 : Nat) : Int) := by unfold wrap64; omega
      refine Evl.neg h (Evl.some_bind ?_)
      cases c with
      | zero => simp at hv; omega
      | succ c =>
        rw [e1, e2, e3, numE_big (by omega)]
        have hb : v / 128 < 128 ^ (c + 1) := by rw [Nat.pow_succ] at hv; omega
        have hl := numE_len c (v / 128) hb
        exact Evl.bind (refNumE c (v / 128) hb (by omega)) (Evl.pos (by simp only [List.length_singleton]; omega) (Evl.ret _))
theorem refNum9 (v : Nat) (h : v ≤ 4611686018427387904) : Evl (fun k => rubrickref02_Num.f k (v : Int)) (numE v) := by
  have h9 : (128 : Nat) ^ (8 + 1) = 9223372036854775808 := by decide
  exact refNumE 8 v (by omega) (by omega)
theorem refWrite_loop (l : List Int) (hl : l.length ≤ 10000) : ∀ d i : Nat, i + d = l.length → ∀ (b : List Int), -1 ≤ prev l i → rightFrom (prev l i) (l.drop i) = true → b.length ≤ 3 + 2 * i →
    Evl (fun k => rubrickref09_Write.l0 k l b (i : Int)) (b ++ gapsE (prev l i) (l.drop i))
  | 0, i, h, b, h0, hr, hb => by
    refine Evl.step (fun _ => rubrickref09_Write.l0.eq_2 ..) (Evl.neg (by omega) (Evl.ret' ?_))
    rw [List.drop_eq_nil_of_le (by omega), gapsE, List.append_nil]
  | d + 1, i, h, b, h0, hr, hb => by
    have hi : i < l.length := by omega
    rw [List.drop_eq_getElem_cons hi] at hr
    obtain ⟨r1, r2, r3⟩ := right_cons0 hr
    rw [List.drop_eq_getElem_cons hi, gapsE]
    have hn : prev l (i + 1) = l[i] := by
      show l.getD i 0 = _
      rw [List.getD_eq_getElem?_getD, List.getElem?_eq_getElem hi]; rfl
    have hg := numE_len 1 (l[i] - prev l i - 1).toNat (by have : (128 : Nat) ^ (1 + 1) = 16384 := by decide
                                                          omega)
    have ih := refWrite_loop l hl d (i + 1) (by omega) (b ++ numE (l[i] - prev l i - 1).toNat) (by rw [hn]; omega) (by rw [hn]; exact r3) (by rw [List.length_append]; omega)
    rw [hn, List.append_assoc] at ih
    refine Evl.step (fun _ => rubrickref09_Write.l0.eq_2 ..) (Evl.pos (by omega) ?_)
    rw [w1 i (by omega)]
    cases i with
    | zero =>
      have e : rd l 0 = (((l[0] - prev l 0 - 1).toNat : Nat) : Int) := by
        have := rdi l 0 hi
        rw [show rd l 0 = rd l ((0 : Nat) : Int) from rfl, this]
        show l[0] = (((l[0] - (-1) - 1).toNat : Nat) : Int)
        have : (-1 : Int) < l[0] := r1
        omega
      refine Evl.pos rfl (Evl.pos (by omega) ?_)
      rw [e]
      exact Evl.bind (refNum9 _ (by omega)) (Evl.pos (by omega) ih)
    | succ j =>
      have hj : j < l.length := by omega
      have e : wrap64 (((j + 1 : Nat) : Int) - 1) = (j : Int) := by unfold wrap64; omega
      have hm : prev l (j + 1) = l[j] := by
        show l.getD j 0 = _
        rw [List.getD_eq_getElem?_getD, List.getElem?_eq_getElem hj]; rfl
      rw [hm] at r1 h0
      have e2 : wrap64 (wrap64 (l[j + 1] - l[j]) - 1) = (((l[j + 1] - prev l (j + 1) - 1).toNat : Nat) : Int) := by
        rw [hm, wN (n := l[j + 1] - l[j]) (by omega) (by omega), wN (by omega) (by omega)]; omega
      rw [e, rdi l j hj, rdi l (j + 1) hi, e2]
      exact Evl.neg (by omega) (Evl.pos (by omega) (Evl.pos (by omega) (Evl.pos (by omega) (Evl.bind (refNum9 _ (by omega)) (Evl.pos (by omega) ih)))))
theorem refWriteE (l : List Int) (h : rightFrom (-1) l = true) : Evl (fun k => rubrickref09_Write.f k l) (writeL l) := by
  have hl := right_len l (-1) (by omega) (by omega) h
  have h2 := numE_len 1 l.length (by have : (128 : Nat) ^ (1 + 1) = 16384 := by decide
                                     omega)
  have := refWrite_loop l (by omega) l.length 0 (by omega) (numE l.length) (by show (-1 : Int) ≤ -1; omega) (by rw [List.drop_zero]; exact h) (by omega)
  rw [List.drop_zero] at this
  exact Evl.bind (refNum9 _ (by omega)) this
theorem noneB : (⟨#[]⟩ : ByteArray).toList = ([] : List UInt8) := by decide +kernel
theorem write_range (l : List Int) : ∀ x ∈ writeL l, 0 ≤ x ∧ x < 256 := fun x hx => by
  unfold writeL at hx
  rcases List.mem_append.1 hx with h | h
  · exact numE_range _ x h
  · exact gaps_range _ _ x h
theorem PostWrites (l : List Int) (_ : l.length ≤ 9223372036854775807 ∧ ∀ x ∈ l, (Lit.int .i64 x).wf = true) : ∃ k, rubricklaw09_PostWrites.f k l = some true := by
  refine Evl.ex (f := fun k => rubricklaw09_PostWrites.f k l) ?_
  unfold rubricklaw09_PostWrites.f rubricklaw09_great.f
  refine Evl.some_bind ?_
  by_cases hg : (l.length : Int) > 300
  · exact Evl.pos (decide_eq_true hg) knows09E
  refine Evl.neg (by rw [decide_eq_false hg]; decide) (Evl.bind (writeE l (by omega)) ?_)
  unfold post_Digest.f
  by_cases h : rightFrom (-1) l = true
  · have hwl : (writeL l).length ≤ 1000000 := by
      have h2 := numE_len 1 l.length (by have : (128 : Nat) ^ (1 + 1) = 16384 := by decide
                                         omega)
      have := gaps_len l (-1) (by omega) h
      unfold writeL
      rw [List.length_append]
      omega
    have hp : Evl (fun k => seal_Posts.f k (writeL l)) (shaSum (2 :: writeL l)) := ⟨2, fun k hk => by
      obtain ⟨m, rfl⟩ : ∃ m, k = m + 2 := ⟨k - 2, by omega⟩
      show seal_Posts.f (m + 2) (writeL l) = _
      rw [postsF m _ (by omega), bytesOf_str (write_range l)]⟩
    have hd : Evl (fun k => (post_Write.f k l).bind fun bt101 => (if bt101.2 = 0 then ((seal_Posts.f k bt101.1).bind fun t105 => (some (t105, 0))) else (some ((⟨#[]⟩ : ByteArray), bt101.2)))) (shaSum (2 :: writeL l), 0) := by
      refine Evl.bind (writeE l (by omega)) ?_
      rw [if_pos h]
      exact Evl.pos rfl (Evl.bind hp (Evl.ret _))
    refine Evl.bind hd (Evl.bind (refRightE l (by omega)) (Evl.bind (rightE l (by omega)) ?_))
    rw [h, if_pos rfl]
    refine Evl.neg (by decide) (Evl.pos rfl (Evl.bind (refWriteE l h) (Evl.pos rfl (Evl.pos rfl ?_))))
    unfold rubrickref09_Digest.f
    have hof : Evl (fun k => (rubrickref09_Write.f k l).bind fun t106 => ((rubrickref03_Of.f k 2 t106).bind fun t109 => (some t109))) (shaSum (2 :: writeL l)) := by
      refine Evl.bind (refWriteE l h) (Evl.bind (f := fun k => rubrickref03_Of.f k 2 (writeL l)) (r := shaSum (2 :: writeL l)) ⟨(writeL l).length + 301, fun k hk => ofF k 2 (by omega) _ (write_range l) (by omega) hk⟩ (Evl.ret _))
    exact Evl.bind hof (Evl.pos rfl (Evl.pos rfl knows09E))
  · have hd : Evl (fun k => (post_Write.f k l).bind fun bt101 => (if bt101.2 = 0 then ((seal_Posts.f k bt101.1).bind fun t105 => (some (t105, 0))) else (some ((⟨#[]⟩ : ByteArray), bt101.2)))) ((⟨#[]⟩ : ByteArray), 1) := by
      refine Evl.bind (writeE l (by omega)) ?_
      rw [if_neg h]
      exact Evl.neg (by decide) (Evl.ret _)
    refine Evl.bind hd (Evl.bind (refRightE l (by omega)) (Evl.bind (rightE l (by omega)) ?_))
    rw [Bool.not_eq_true] at h
    rw [h, if_neg (by decide)]
    exact Evl.neg (by decide) (Evl.neg (by decide) (Evl.pos rfl (Evl.pos rfl (Evl.pos noneB (Evl.pos rfl knows09E)))))
end Go.Proofs.YtgcfhgkhokljcaaDoor.Pure

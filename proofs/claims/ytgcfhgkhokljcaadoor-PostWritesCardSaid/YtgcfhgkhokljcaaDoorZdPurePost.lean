import Derived.Test.YtgcfhgkhokljcaaDoorZdPA
import Derived.Test.YtgcfhgkhokljcaaDoorZdEvl
import Derived.Laws.Bits128
namespace Go.Proofs.YtgcfhgkhokljcaaDoor.PurePost
open Go.RowKit Go.Proofs.YtgcfhgkhokljcaaDoor.PA Go.Proofs.YtgcfhgkhokljcaaDoor.Evl Go.Proofs.YtgcfhgkhokljcaaDoorW.PrintWords Go.Proofs.YtgcfhgkhokljcaaDoorW.PrintLast Go.Proofs.YtgcfhgkhokljcaaDoorW.PrintMore
set_option linter.unusedVariables false
theorem rdi (l : List Int) (i : Nat) (h : i < l.length) : rd l (i : Int) = l[i] := by
  unfold rd
  rw [Int.toNat_natCast, List.getD_eq_getElem?_getD, List.getElem?_eq_getElem h]
  rfl
theorem w1 (i : Nat) (h : i < 2000000000000) : wrap64 ((i : Int) + 1) = ((i + 1 : Nat) : Int) := by unfold wrap64; omega
theorem wN {n : Int} (h : -9223372036854775808 ≤ n) (h2 : n ≤ 9223372036854775807) : wrap64 n = n := by unfold wrap64; omega
/-- Are they postings, behind a last one? -/
def rightFrom : Int → List Int → Bool
  | _, [] => true
  | last, x :: r => if x ≤ last then false else if x ≥ 1000 then false else rightFrom x r
theorem right_loop (l : List Int) (hl : l.length ≤ 1000000000) : ∀ d i : Nat, i + d = l.length → ∀ last : Int, Evl (fun k => post_Right.l0 k last l (l.length : Int) (i : Int)) (rightFrom last (l.drop i))
  | 0, i, h, last => by
    refine Evl.step (fun _ => post_Right.l0.eq_2 ..) (Evl.neg (by omega) (Evl.ret' ?_))
    rw [List.drop_eq_nil_of_le (by omega)]; rfl
  | d + 1, i, h, last => by
    have hi : i < l.length := by omega
    rw [List.drop_eq_getElem_cons hi, rightFrom]
    refine Evl.step (fun _ => post_Right.l0.eq_2 ..) (Evl.pos (by omega) (Evl.pos (by omega) (Evl.pos (by omega) ?_)))
    rw [rdi l i hi, w1 i (by omega)]
    by_cases h1 : l[i] ≤ last
    · rw [if_pos h1]; exact Evl.pos h1 (Evl.ret _)
    rw [if_neg h1]
    refine Evl.neg h1 ?_
    by_cases h2 : l[i] ≥ 1000
    · rw [if_pos h2]; exact Evl.pos h2 (Evl.ret _)
    rw [if_neg h2]
    exact Evl.neg h2 (right_loop l hl d (i + 1) (by omega) _)
theorem rightE (l : List Int) (hl : l.length ≤ 1000000000) : Evl (fun k => post_Right.f k l) (rightFrom (-1) l) := by
  have := right_loop l hl l.length 0 (by omega) (-1)
  rw [List.drop_zero] at this
  exact this
/-- A number's bytes. -/
def numE (v : Nat) : List Int := if h : v < 128 then [(v : Int)] else ((v % 128 + 128 : Nat) : Int) :: numE (v / 128)
  termination_by v
  decreasing_by omega
theorem numE_small {v : Nat} (h : v < 128) : numE v = [(v : Int)] := by rw [numE, dif_pos h]
theorem numE_big {v : Nat} (h : ¬ v < 128) : numE v = ((v % 128 + 128 : Nat) : Int) :: numE (v / 128) := by rw [numE, dif_neg h]
theorem numE_len : ∀ (c v : Nat), v < 128 ^ (c + 1) → (numE v).length ≤ c + 1
  | 0, v, h => by rw [numE_small (by simpa using h)]; simp
  | c + 1, v, h => by
    by_cases hv : v < 128
    · rw [numE_small hv]; simp
    · have : v / 128 < 128 ^ (c + 1) := by rw [Nat.pow_succ] at h; omega
      have := numE_len c (v / 128) this
      rw [numE_big hv, List.length_cons]; omega
theorem numE_range : ∀ (v : Nat), ∀ x ∈ numE v, 0 ≤ x ∧ x < 256 := by
  intro v
  induction v using Nat.strongRecOn with
  | _ v ih =>
    intro x hx
    by_cases hv : v < 128
    · rw [numE_small hv] at hx
      have := List.mem_singleton.1 hx
      omega
    · rw [numE_big hv] at hx
      rcases List.mem_cons.1 hx with rfl | hx
      · omega
      · exact ih (v / 128) (by omega) x hx
theorem or128 : ∀ n : Fin 256, Go.bits .or .u8 (n.val : Int) 128 = ((n.val % 128 + 128 : Nat) : Int) := by decide +kernel
theorem num_loop : ∀ (c v : Nat) (b : List Int), v < 128 ^ (c + 1) → b.length + c ≤ 1000000000 → Evl (fun k => code_num.l0 k b (v : Int)) (b ++ numE v)
  | c, v, b, hv, hb => by
    refine Evl.step (fun _ => code_num.l0.eq_2 ..) ?_
    by_cases h : (v : Int) ≥ 128
    · have e : (v : Int) % 256 = ((v % 256 : Nat) : Int) := by omega
      have e2 := or128 ⟨v % 256, Nat.mod_lt _ (by decide)⟩
      simp only at e2
      have e3 : (v : Int) / 128 = ((v / 128 : Nat) : Int) := by omega
      rw [e, e2, e3, show v % 256 % 128 = v % 128 by omega, numE_big (by omega)]
      cases c with
      | zero => simp at hv; omega
      | succ c =>
        refine Evl.pos h (Evl.pos (by omega) ?_)
        have := num_loop c (v / 128) (b ++ [((v % 128 + 128 : Nat) : Int)]) (by rw [Nat.pow_succ] at hv; omega) (by simp; omega)
        refine this.cast ?_
        simp
    · refine Evl.neg h (Evl.pos (by omega) (Evl.ret' ?_))
      rw [numE_small (by omega), show (v : Int) % 256 = (v : Int) by omega]
theorem NumE (b : List Int) (v : Nat) (hv : v ≤ 4611686018427387904) (hb : b.length ≤ 100000000) : Evl (fun k => code_Num.f k b (v : Int)) (b ++ numE v, 0) := by
  have h9 : (128 : Nat) ^ (8 + 1) = 9223372036854775808 := by decide
  have hn := num_loop 8 v b (by omega) (by omega)
  unfold code_Num.f
  refine Evl.neg (by omega) (Evl.neg (by omega) (Evl.some_bind (Evl.pos (by simp; omega) ?_)))
  rw [List.nil_append]
  exact Evl.bind hn (Evl.ret _)
/-- What is between postings, as bytes. -/
def gapsE : Int → List Int → List Int
  | _, [] => []
  | last, x :: r => numE (x - last - 1).toNat ++ gapsE x r
def writeL (l : List Int) : List Int := numE l.length ++ gapsE (-1) l
theorem gaps_range : ∀ (l : List Int) (last : Int), ∀ x ∈ gapsE last l, 0 ≤ x ∧ x < 256
  | [], _, x, hx => by cases hx
  | y :: r, last, x, hx => by
    rw [gapsE] at hx
    rcases List.mem_append.1 hx with h | h
    · exact numE_range _ x h
    · exact gaps_range r y x h
theorem gaps_len : ∀ (l : List Int) (last : Int), -1 ≤ last → rightFrom last l = true → (gapsE last l).length ≤ 2 * l.length
  | [], _, _, _ => by simp [gapsE]
  | y :: r, last, h0, h => by
    rw [rightFrom] at h
    split at h
    · cases h
    split at h
    · cases h
    have h1 := gaps_len r y (by omega) h
    have h2 := numE_len 1 (y - last - 1).toNat (by have : (128 : Nat) ^ (1 + 1) = 16384 := by decide
                                                   omega)
    rw [gapsE, List.length_append, List.length_cons]
    omega
theorem write_loop (l : List Int) (hl : l.length ≤ 10000) : ∀ d i : Nat, i + d = l.length → ∀ (last : Int) (b : List Int), -1 ≤ last → rightFrom last (l.drop i) = true → b.length ≤ 3 + 2 * i →
    Evl (fun k => post_Write.l0 k b last l (l.length : Int) (i : Int)) (b ++ gapsE last (l.drop i), 0)
  | 0, i, h, last, b, h0, hr, hb => by
    refine Evl.step (fun _ => post_Write.l0.eq_2 ..) (Evl.neg (by omega) (Evl.ret' ?_))
    rw [List.drop_eq_nil_of_le (by omega), gapsE, List.append_nil]
  | d + 1, i, h, last, b, h0, hr, hb => by
    have hi : i < l.length := by omega
    rw [List.drop_eq_getElem_cons hi, rightFrom] at hr
    rw [List.drop_eq_getElem_cons hi, gapsE]
    split at hr
    · cases hr
    split at hr
    · cases hr
    refine Evl.step (fun _ => post_Write.l0.eq_2 ..) (Evl.pos (by omega) (Evl.pos (by omega) (Evl.pos (by omega) ?_)))
    have e : wrap64 (wrap64 (l[i] - last) - 1) = (((l[i] - last - 1).toNat : Nat) : Int) := by
      rw [wN (n := l[i] - last) (by omega) (by omega), wN (by omega) (by omega)]; omega
    rw [rdi l i hi, w1 i (by omega), e]
    have hg := numE_len 1 (l[i] - last - 1).toNat (by have : (128 : Nat) ^ (1 + 1) = 16384 := by decide
                                                      omega)
    refine Evl.bind (NumE b _ (by omega) (by omega)) ?_
    refine (write_loop l hl d (i + 1) (by omega) l[i] (b ++ numE (l[i] - last - 1).toNat) (by omega) hr (by rw [List.length_append]; omega)).cast ?_
    rw [List.append_assoc]
theorem writeE (l : List Int) (hl : l.length ≤ 10000) : Evl (fun k => post_Write.f k l) (if rightFrom (-1) l = true then (writeL l, 0) else ([], 1)) := by
  unfold post_Write.f
  refine Evl.bind (rightE l (by omega)) ?_
  cases hr : rightFrom (-1) l
  · exact Evl.ret _
  · refine Evl.pos rfl (Evl.bind (NumE [] l.length (by omega) (by simp)) ?_)
    have h2 := numE_len 1 l.length (by have : (128 : Nat) ^ (1 + 1) = 16384 := by decide
                                       omega)
    have := write_loop l hl l.length 0 (by omega) (-1) ([] ++ numE l.length) (by omega) (by rw [List.drop_zero]; exact hr) (by rw [List.nil_append]; omega)
    rw [List.drop_zero, List.nil_append] at this
    exact this
end Go.Proofs.YtgcfhgkhokljcaaDoor.PurePost

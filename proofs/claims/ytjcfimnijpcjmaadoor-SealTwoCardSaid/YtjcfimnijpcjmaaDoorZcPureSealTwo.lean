import Derived.Test.YtjcfimnijpcjmaaDoorZcPSealTwo
import Derived.Test.YtjcfimnijpcjmaaDoorZcPureSealU
namespace Go.Proofs.YtjcfimnijpcjmaaDoor.Pure
open Go.RowKit Go.Proofs.YtjcfimnijpcjmaaDoor.HSha Go.Proofs.YtjcfimnijpcjmaaDoor.PS Go.Proofs.YtjcfimnijpcjmaaDoor.PR Go.Proofs.YtjcfimnijpcjmaaDoor.PT Go.Proofs.YtjcfimnijpcjmaaDoor.HNode Go.Proofs.YtjcfimnijpcjmaaDoor.PSealTwo Go.Proofs.YtjcfimnijpcjmaaDoor.Evl Go.Proofs.YtjcfimnijpcjmaaDoor.PureS Go.Proofs.YtjcfimnijpcjmaaDoor.PureO Go.Proofs.YtjcfimnijpcjmaaDoor.PureSealU Go.Proofs.YtjcfimnijpcjmaaDoorW.PrintWords Go.Proofs.YtjcfimnijpcjmaaDoorW.PrintLast Go.Proofs.YtjcfimnijpcjmaaDoorW.PrintMore
set_option linter.unusedVariables false
theorem two_tail (a b c d : ByteArray) (ha : a.size = 32) (hb : b.size = 32) (hc : c.size = 32) (hd : d.size = 32) : Evl (fun k => rubricklaw03_SealTwo.j1 k a b c d false) true := by
  have n : ∀ x y : ByteArray, x.size = 32 → y.size = 32 → Evl (fun k => seal_Node.f k x y) (nodeD x y, 0) := fun x y hx hy => (nodeE x y).cast (if_pos ⟨hx, hy⟩)
  have nb : ∀ x y : ByteArray, x.size = 32 → y.size = 32 → Evl (fun k => seal_NodeBytes.f k x y) (1 :: (bytesOf x ++ bytesOf y)) := fun x y hx hy => ⟨3, fun k hk => by
    obtain ⟨m, rfl⟩ : ∃ m, k = m + 3 := ⟨k - 3, by omega⟩
    exact nodeBytesF m x y (by omega) (by omega)⟩
  have len : ∀ x y : ByteArray, x.size = 32 → y.size = 32 → (1 :: (bytesOf x ++ bytesOf y) : List Int).length = 65 := fun x y hx hy => by
    rw [List.length_cons, List.length_append, bytesOf_length, bytesOf_length]; omega
  have rg : ∀ x y : ByteArray, ∀ z ∈ (1 :: (bytesOf x ++ bytesOf y) : List Int), 0 ≤ z ∧ z < 256 := fun x y z hz => by
    rcases List.mem_cons.1 hz with rfl | hz
    · omega
    · rcases List.mem_append.1 hz with hz | hz
      · exact bytesOf_range _ z hz
      · exact bytesOf_range _ z hz
  have l1 := len a b ha hb
  have l2 := len c d hc hd
  refine Evl.step (fun _ => rubricklaw03_SealTwo.j1.eq_2 ..) (Evl.neg (by decide) (Evl.bind (n a b ha hb) (Evl.bind (n c d hc hd) (Evl.bind (nb a b ha hb) (Evl.bind (nb c d hc hd) (Evl.bind (betweenE _ _ (by omega) (by omega)) ?_))))))
  have sums : ∀ u v : List Int, (∀ x ∈ u, 0 ≤ x ∧ x < 256) → (∀ x ∈ v, 0 ≤ x ∧ x < 256) → u.length ≤ 100 → v.length ≤ 100 → ((shaSum u).toList == (shaSum v).toList) = true →
      Evl (fun k => (rubrickref01_Sum.f k u).bind fun t144 => ((rubrickref01_Sum.f k v).bind fun t145 => (if t144.toList = t145.toList then ((rubricklaw03_knows.f k).bind fun t146 => (some t146)) else (some false)))) true := fun u v hu hv h1 h2 he =>
    Evl.bind (rsumE u hu (by omega)) (Evl.bind (rsumE v hv (by omega)) (Evl.pos (beq_iff_eq.1 he) knows03E))
  by_cases hab : a.toList = c.toList ∧ b.toList = d.toList
  · have e1 := toList_inj hab.1
    have e2 := toList_inj hab.2
    subst e1 e2
    unfold btw
    rw [isB_self, if_neg (by decide)]
    exact Evl.pos rfl (Evl.pos rfl (Evl.neg (by decide) (Evl.neg (by decide) knows03E)))
  · have hne : (1 :: (bytesOf a ++ bytesOf b) : List Int) ≠ 1 :: (bytesOf c ++ bytesOf d) := fun e => hab (by
      have e := (List.cons.inj e).2
      have e3 := List.append_inj e (by rw [bytesOf_length, bytesOf_length]; omega)
      have e4 : a = c := by rw [← str_bytes a, ← str_bytes c, e3.1]
      have e5 : b = d := by rw [← str_bytes b, ← str_bytes d, e3.2]
      exact ⟨by rw [e4], by rw [e5]⟩)
    have hB := isB_ne (rg a b) (rg c d) hne
    have core : Evl (fun k => if ((btw (1 :: (bytesOf a ++ bytesOf b)) (1 :: (bytesOf c ++ bytesOf d))).2.2 != ((nodeD a b).toList == (nodeD c d).toList)) = true then (some false) else (if (btw (1 :: (bytesOf a ++ bytesOf b)) (1 :: (bytesOf c ++ bytesOf d))).2.2 = true then ((rubrickref01_Sum.f k (btw (1 :: (bytesOf a ++ bytesOf b)) (1 :: (bytesOf c ++ bytesOf d))).1).bind fun t144 => ((rubrickref01_Sum.f k (btw (1 :: (bytesOf a ++ bytesOf b)) (1 :: (bytesOf c ++ bytesOf d))).2.1).bind fun t145 => (if t144.toList = t145.toList then ((rubricklaw03_knows.f k).bind fun t146 => (some t146)) else (some false)))) else ((rubricklaw03_knows.f k).bind fun t147 => (some t147)))) true := by
      have hn : ((nodeD a b).toList == (nodeD c d).toList) = isB (1 :: (bytesOf a ++ bytesOf b)) (1 :: (bytesOf c ++ bytesOf d)) := hB.symm
      rw [hn]
      unfold btw
      by_cases hi : isB (1 :: (bytesOf a ++ bytesOf b)) (1 :: (bytesOf c ++ bytesOf d)) = true
      · rw [if_pos hi, hi]
        exact Evl.neg (show ¬ (true != true) = true by decide) (Evl.pos rfl (sums (1 :: (bytesOf a ++ bytesOf b)) (1 :: (bytesOf c ++ bytesOf d)) (rg a b) (rg c d) (by omega) (by omega) (hB ▸ hi)))
      · rw [if_neg hi, Bool.eq_false_iff.2 hi]
        exact Evl.neg (by decide) (Evl.neg (by decide) knows03E)
    by_cases h1 : a.toList = c.toList
    · exact Evl.pos h1 (Evl.neg (fun h2 => hab ⟨h1, h2⟩) core)
    · exact Evl.neg h1 core
theorem SealTwo (l m : List Int) (a b c d : ByteArray) (hl : l.length ≤ 9223372036854775807 ∧ ∀ x ∈ l, (Lit.int .u8 x).wf = true) (hm : m.length ≤ 9223372036854775807 ∧ ∀ x ∈ m, (Lit.int .u8 x).wf = true) (_ : a.size ≤ 9223372036854775807) (_ : b.size ≤ 9223372036854775807) (_ : c.size ≤ 9223372036854775807) (_ : d.size ≤ 9223372036854775807) : ∃ k, rubricklaw03_SealTwo.f k l m a b c d = some true := by
  refine Evl.ex (f := fun k => rubricklaw03_SealTwo.f k l m a b c d) ?_
  have hx := bytes_wf hl.2
  have hy := bytes_wf hm.2
  have out : Evl (fun k => rubricklaw03_SealTwo.j0 k l m a b c d true) true := Evl.step (fun _ => rubricklaw03_SealTwo.j0.eq_2 ..) (Evl.pos rfl knows03E)
  unfold rubricklaw03_SealTwo.f
  rw [greatF, greatF]
  refine Evl.some_bind ?_
  by_cases hg : 2000 < l.length
  · exact Evl.pos (decide_eq_true hg) out
  refine Evl.neg (by rw [decide_eq_false hg]; decide) (Evl.some_bind ?_)
  by_cases hg2 : 2000 < m.length
  · exact Evl.pos (decide_eq_true hg2) out
  refine Evl.neg (by rw [decide_eq_false hg2]; decide) ?_
  by_cases ha : (a.size : Int) = 32
  rotate_left
  · exact Evl.neg ha out
  refine Evl.pos ha ?_
  by_cases hb : (b.size : Int) = 32
  rotate_left
  · exact Evl.neg hb out
  refine Evl.pos hb ?_
  by_cases hc : (c.size : Int) = 32
  rotate_left
  · exact Evl.neg hc out
  refine Evl.pos hc ?_
  by_cases hd : d.size = 32
  rotate_left
  · rw [show ((d.size : Int) != 32) = true by simp; omega]; exact out
  rw [show ((d.size : Int) != 32) = false by simp [hd]]
  have tl := two_tail a b c d (by omega) (by omega) (by omega) hd
  have cr : ∀ u : List Int, (∀ x ∈ u, 0 ≤ x ∧ x < 256) → ∀ x ∈ (0 :: u : List Int), 0 ≤ x ∧ x < 256 := fun u hu x hx => by
    rcases List.mem_cons.1 hx with rfl | hx
    · omega
    · exact hu x hx
  have h4 : ∀ u : List Int, (∀ x ∈ u, 0 ≤ x ∧ x < 256) → u.length ≤ 2000 → Evl (fun k => seal_LeafBytes.f k u) (0 :: u) := fun u hu hl => ev2 fun k => by rw [leafBytesF k u (by omega), bytesOf_str hu]
  have isE : ∀ u v : List Int, u.length ≤ 3000 → v.length ≤ 3000 → Evl (fun _ => seal_Is.f u v) (isB u v) := fun u v h1 h2 => Evl.of 0 fun _ _ => isF u v (by omega) (by omega)
  refine Evl.step (fun _ => rubricklaw03_SealTwo.j0.eq_2 ..) (Evl.neg (by decide) (Evl.bind (h4 l hx (by omega)) (Evl.bind (h4 m hy (by omega)) (Evl.bind (betweenE _ _ (by simp only [List.length_cons]; omega) (by simp only [List.length_cons]; omega)) ?_))))
  by_cases hs : (strOfNums l).toList = (strOfNums m).toList
  · have e := str_inj hx hy hs
    subst e
    unfold btw
    rw [isB_self, if_neg (by decide)]
    exact Evl.pos rfl (Evl.neg (by decide) (Evl.neg (by decide) tl))
  · have hne : (0 :: l : List Int) ≠ 0 :: m := fun e => hs (by rw [(List.cons.inj e).2])
    have hB := isB_ne (cr l hx) (cr m hy) hne
    refine Evl.neg hs (Evl.bind (leafE l hx (by omega)) (Evl.bind (leafE m hy (by omega)) ?_))
    have hn : ((leafD l).toList == (leafD m).toList) = isB (0 :: l) (0 :: m) := hB.symm
    rw [hn]
    unfold btw
    by_cases hi : isB (0 :: l) (0 :: m) = true
    · rw [if_pos hi, hi]
      refine Evl.neg (show ¬ (true != true) = true by decide) (Evl.pos rfl (Evl.bind (isE (0 :: l) (0 :: m) (by simp only [List.length_cons]; omega) (by simp only [List.length_cons]; omega)) ?_))
      rw [hi]
      exact tl
    · rw [if_neg hi, Bool.eq_false_iff.2 hi]
      exact Evl.neg (by decide) (Evl.neg (by decide) tl)
end Go.Proofs.YtjcfimnijpcjmaaDoor.Pure

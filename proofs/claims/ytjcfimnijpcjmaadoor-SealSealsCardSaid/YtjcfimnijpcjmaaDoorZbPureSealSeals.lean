import Derived.Test.YtjcfimnijpcjmaaDoorZbPSealSeals
import Derived.Test.YtjcfimnijpcjmaaDoorZbPureSealU
namespace Go.Proofs.YtjcfimnijpcjmaaDoor.Pure
open Go.RowKit Go.Proofs.YtjcfimnijpcjmaaDoor.HSha Go.Proofs.YtjcfimnijpcjmaaDoor.PS Go.Proofs.YtjcfimnijpcjmaaDoor.PR Go.Proofs.YtjcfimnijpcjmaaDoor.PT Go.Proofs.YtjcfimnijpcjmaaDoor.HNode Go.Proofs.YtjcfimnijpcjmaaDoor.PSealSeals Go.Proofs.YtjcfimnijpcjmaaDoor.Evl Go.Proofs.YtjcfimnijpcjmaaDoor.PureS Go.Proofs.YtjcfimnijpcjmaaDoor.PureO Go.Proofs.YtjcfimnijpcjmaaDoor.PureSealU Go.Proofs.YtjcfimnijpcjmaaDoorW.PrintWords Go.Proofs.YtjcfimnijpcjmaaDoorW.PrintLast Go.Proofs.YtjcfimnijpcjmaaDoorW.PrintMore
set_option linter.unusedVariables false
theorem SealSeals (l : List Int) (a b : ByteArray) (hl : l.length ≤ 9223372036854775807 ∧ ∀ x ∈ l, (Lit.int .u8 x).wf = true) (_ : a.size ≤ 9223372036854775807) (_ : b.size ≤ 9223372036854775807) : ∃ k, rubricklaw03_SealSeals.f k l a b = some true := by
  refine Evl.ex (f := fun k => rubricklaw03_SealSeals.f k l a b) ?_
  have hb := bytes_wf hl.2
  have out : Evl (fun k => rubricklaw03_SealSeals.j0 k l a b true) true := Evl.step (fun _ => rubricklaw03_SealSeals.j0.eq_2 ..) (Evl.pos rfl knows03E)
  unfold rubricklaw03_SealSeals.f
  rw [greatF]
  refine Evl.some_bind ?_
  by_cases hg : 2000 < l.length
  · exact Evl.pos (decide_eq_true hg) out
  refine Evl.neg (by rw [decide_eq_false hg]; decide) ?_
  by_cases hg1 : (a.size : Int) > 200
  · exact Evl.pos hg1 out
  refine Evl.neg hg1 ?_
  by_cases hg2 : (b.size : Int) > 200
  · rw [decide_eq_true hg2]; exact out
  rw [decide_eq_false hg2]
  have ofE : ∀ t : Int, 0 ≤ t ∧ t < 256 → Evl (fun k => rubrickref03_Of.f k t l) (shaSum (t :: l)) := fun t ht => ⟨l.length + 301, fun k hk => ofF k t ht l hb (by omega) hk⟩
  have byE : ∀ t : Int, 0 ≤ t ∧ t < 256 → Evl (fun k => rubrickref03_Bytes.f k t l) (t :: l) := fun t ht => bytesE t ht l (by omega)
  have el := bytesOf_str hb
  have h1 : Evl (fun k => seal_Leaf.f k l) (shaSum (0 :: l)) := (leafE l hb (by omega)).cast rfl
  have h2 : Evl (fun k => seal_Posts.f k l) (shaSum (2 :: l)) := ev2 fun k => by rw [postsF k l (by omega), el]
  have h3 : Evl (fun k => seal_Head.f k l) (shaSum (3 :: l)) := ev2 fun k => by rw [headF k l (by omega), el]
  have h4 : Evl (fun k => seal_LeafBytes.f k l) (0 :: l) := ev2 fun k => by rw [leafBytesF k l (by omega), el]
  have h5 : Evl (fun k => seal_PostsBytes.f k l) (2 :: l) := ev2 fun k => by rw [postsBytesF k l (by omega), el]
  have h6 : Evl (fun k => seal_HeadBytes.f k l) (3 :: l) := ev2 fun k => by rw [headBytesF k l (by omega), el]
  refine Evl.step (fun _ => rubricklaw03_SealSeals.j0.eq_2 ..) (Evl.neg (by decide) (Evl.bind h1 (Evl.bind (ofE 0 (by omega)) (Evl.pos rfl (Evl.bind h2 (Evl.bind (ofE 2 (by omega)) (Evl.pos rfl (Evl.bind h3 (Evl.bind (ofE 3 (by omega)) ?_)))))))))
  rw [bne_self_eq_false]
  refine Evl.step (fun _ => rubricklaw03_SealSeals.j1.eq_2 ..) (Evl.neg (by decide) (Evl.bind h4 (Evl.bind (byE 0 (by omega)) (Evl.pos rfl (Evl.bind h5 (Evl.bind (byE 2 (by omega)) (Evl.pos rfl (Evl.bind h6 (Evl.bind (byE 3 (by omega)) ?_)))))))))
  rw [bne_self_eq_false]
  have h7 : Evl (fun k => seal_NodeBytes.f k a b) (1 :: (bytesOf a ++ bytesOf b)) := ⟨3, fun k hk => by
    obtain ⟨m, rfl⟩ : ∃ m, k = m + 3 := ⟨k - 3, by omega⟩
    exact nodeBytesF m a b (by omega) (by omega)⟩
  have h8 : (strOfNums (1 :: (bytesOf a ++ bytesOf b))).toList = (((⟨#[1]⟩ : ByteArray) ++ a) ++ b).toList := by
    have e : (1 :: (bytesOf a ++ bytesOf b) : List Int) = bytesOf (((⟨#[1]⟩ : ByteArray) ++ a) ++ b) := by
      rw [bytesOf_app, bytesOf_app, List.append_assoc]; rfl
    rw [e, str_bytes]
  refine Evl.step (fun _ => rubricklaw03_SealSeals.j2.eq_2 ..) (Evl.neg (by decide) (Evl.bind (nodeE a b) (Evl.bind h7 (Evl.pos (by omega) (Evl.pos ?_ (Evl.pos h8 ?_))))))
  · rw [ByteArray.size_append, show (⟨#[1]⟩ : ByteArray).size = 1 from rfl]; omega
  have no : ¬ (a.size = 32 ∧ b.size = 32) → Evl (fun k => rubricklaw03_SealSeals.j3 k a b (if a.size = 32 ∧ b.size = 32 then (nodeD a b, (0 : Int)) else (ByteArray.empty, 1)).1 (if a.size = 32 ∧ b.size = 32 then (nodeD a b, (0 : Int)) else (ByteArray.empty, 1)).2 true) true := fun h => by
    rw [if_neg h]
    exact Evl.step (fun _ => rubricklaw03_SealSeals.j3.eq_2 ..) (Evl.pos rfl (Evl.pos noneE (Evl.pos rfl knows03E)))
  by_cases ha : (a.size : Int) = 32
  · refine Evl.pos ha ?_
    by_cases hb2 : b.size = 32
    · rw [if_pos ⟨by omega, hb2⟩, show ((b.size : Int) != 32) = false by simp [hb2]]
      exact Evl.step (fun _ => rubricklaw03_SealSeals.j3.eq_2 ..) (Evl.neg (by decide) (Evl.bind (rnodeE a b (by omega) (by omega)) (Evl.pos rfl (Evl.pos rfl knows03E))))
    · rw [show ((b.size : Int) != 32) = true by simp; omega]
      exact no (fun h => hb2 h.2)
  · exact Evl.neg ha (no (fun h => ha (by omega)))
end Go.Proofs.YtjcfimnijpcjmaaDoor.Pure

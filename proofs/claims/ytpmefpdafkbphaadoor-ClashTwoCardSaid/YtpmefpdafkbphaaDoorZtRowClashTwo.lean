import Derived.Test.YtpmefpdafkbphaaDoorZtPureClashTwo
import Derived.Test.YtpmefpdafkbphaaDoorZtHOpen
import Derived.Test.YtpmefpdafkbphaaDoorZtHLaid
import Derived.Test.YtpmefpdafkbphaaDoorCards
import Derived.Test.YtpmefpdafkbphaaDoorTie
import Derived.SevenTiedAt
import Derived.ProofKit
import Derived.ShutString
import Derived.ChangeOld
import Derived.SizedLaws
import Derived.ChangeSlices
namespace Go.Proofs.YtpmefpdafkbphaaDoor.clashTwo
open Go.ChangeShapes Go.WideShapes Go.ChangeAt Go.RowKit Go.Proofs.YtpmefpdafkbphaaDoorW.PrintWords
open Go.ChangeMaps (open_string shut_string)
set_option linter.unusedVariables false
theorem own : ownKnob Tryd.prog.godebug = none := by kernel_rfl
theorem laidOut : laidOutB Tryd.prog = true := by kernel_rfl
set_option maxRecDepth 100000 in
theorem lifted (os : Os) (started : os.Started) (H : Type) (enc : TypeId × Value → H) :
    ReturnsInHanded {} Tryd.checked os 11 .any (fun w args => (Rows.clashTwoSpec.pre enc Tryd.prog Tryd.f11 [] false w args ∧ laidMet Tryd.prog HLaid.laids w) ∧ sizedMet enc Tryd.prog Tryd.f11 (OpenSpec.ofChange Rows.clashTwoSpec) false w args) (Rows.clashTwoSpec.post enc Tryd.prog Tryd.f11 false true false false) := by
  refine returnsInHanded_of_change_and (C := Tryd.checked) (X := fun w _ => laidMet Tryd.prog HLaid.laids w) (fun _ _ _ hh h => h.of_heap hh) own started (by kernel_rfl) Tryd.func11
    (ChangeSpec.witness_at (enc := enc) (C := Tryd.checked) (os := os) (X := fun w _ => laidMet Tryd.prog HLaid.laids w) false (HLaid.laidWorld os) #[.slice none 0 0, .slice none 0 0, .slice none 0 0, .slice none 0 0] 8 rfl (by kernel_rfl) (by kernel_rfl) (by kernel_rfl) (by kernel_rfl) (by kernel_rfl) (HLaid.met os _)) ?_
  intro W base args ds gs before hval0 hW hcnd hsz0 hL _; have hsz : (DataW.weightsEach Tryd.prog (Tryd.f11.params.toList ++ Rows.clashTwoSpec.plain.varTypes Tryd.prog) (ds ++ gs)).all (· ≤ reachBytes) = true := hsz0; have hval : ∀ (j : Nat) t v, Tryd.f11.params[j]? = some t → args[j]? = some v → Value.okWide Tryd.prog W .any base t v := hval0; have hW' := hW; obtain ⟨p, q, hA0, hV, rfl, hfz, hnd⟩ := hW; (have hA : DataW.TrodAll enc Tryd.prog W 0 (fun _ => true) true Tryd.f11.params.toList args.toList ds p := hA0); rw [Tryd.params11] at hA hval hsz; obtain ⟨v0, vs0, d0, ds0, p0, q0, hargs, rfl, rfl, h0, r0⟩ := trodAll_cons hA; obtain ⟨v1, vs1, d1, ds1, p1, q1, rfl, rfl, rfl, h1, r1⟩ := trodAll_cons r0; obtain ⟨v2, vs2, d2, ds2, p2, q2, rfl, rfl, rfl, h2, r2⟩ := trodAll_cons r1; obtain ⟨v3, vs3, d3, ds3, p3, q3, rfl, rfl, rfl, h3, r3⟩ := trodAll_cons r2; obtain ⟨rfl, rfl, rfl⟩ := trodAll_nil r3; (obtain rfl : args = #[v0, v1, v2, v3] := by cases args; simp_all); obtain ⟨rfl, rfl⟩ := trodVars_none hV; obtain ⟨a0, len0, cap0, rfl⟩ := okWide_slice Tryd.underlying34 (hval 0 34 v0 rfl rfl); have k0 := h0; (have lt0 : ∀ x ∈ p0, x.block < W.heap.size := by obtain ⟨m, hm⟩ := k0; exact DataW.trod_lt m _ _ _ hm); (obtain ⟨l0, rfl, hr0, hc0, w0⟩ := HOpen.arg_slice (HOpen.opn_slice Tryd.underlying34 (by kernel_rfl) (HOpen.opn_slice Tryd.underlying41 (by kernel_rfl) (HOpen.opn_int Tryd.underlying5))) h0); obtain ⟨a1, len1, cap1, rfl⟩ := okWide_slice Tryd.underlying34 (hval 1 34 v1 rfl rfl); have k1 := h1; (have lt1 : ∀ x ∈ p1, x.block < W.heap.size := by obtain ⟨m, hm⟩ := k1; exact DataW.trod_lt m _ _ _ hm); (obtain ⟨l1, rfl, hr1, hc1, w1⟩ := HOpen.arg_slice (HOpen.opn_slice Tryd.underlying34 (by kernel_rfl) (HOpen.opn_slice Tryd.underlying41 (by kernel_rfl) (HOpen.opn_int Tryd.underlying5))) h1); obtain ⟨a2, len2, cap2, rfl⟩ := okWide_slice Tryd.underlying41 (hval 2 41 v2 rfl rfl); have k2 := h2; (have lt2 : ∀ x ∈ p2, x.block < W.heap.size := by obtain ⟨m, hm⟩ := k2; exact DataW.trod_lt m _ _ _ hm); (obtain ⟨l2, rfl, hr2, hc2, w2⟩ := HOpen.arg_slice (HOpen.opn_slice Tryd.underlying41 (by kernel_rfl) (HOpen.opn_int Tryd.underlying5)) h2); obtain ⟨a3, len3, cap3, rfl⟩ := okWide_slice Tryd.underlying41 (hval 3 41 v3 rfl rfl); have k3 := h3; (have lt3 : ∀ x ∈ p3, x.block < W.heap.size := by obtain ⟨m, hm⟩ := k3; exact DataW.trod_lt m _ _ _ hm); (obtain ⟨l3, rfl, hr3, hc3, w3⟩ := HOpen.arg_slice (HOpen.opn_slice Tryd.underlying41 (by kernel_rfl) (HOpen.opn_int Tryd.underlying5)) h3); clear hA0 hval0 hsz0 hsz; obtain ⟨k, h⟩ := Pure.ClashTwo l0 l1 l2 l3 w0 w1 w2 w3; refine (PClashTwo.rubricklaw08_ClashTwo.calls k _ _ l0 _ _ l1 _ _ l2 _ _ l3 true W (HLaid.gw hL) hr0 hc0 hr1 hc1 hr2 hc2 hr3 hc3 h rfl).mono ?_; rintro e W' ⟨he, bel⟩; subst he; (exact ⟨_, rfl, _, _, _, [], _, [], hW', trodAll_mk1 (shut_bool Tryd.underlying4 _), (trodAll_cons_mk (Below.trod laidOut (by kernel_rfl) (of_decide_eq_true (by kernel_rfl)) k0 bel lt0) (trodAll_cons_mk (Below.trod laidOut (by kernel_rfl) (of_decide_eq_true (by kernel_rfl)) k1 bel lt1) (trodAll_cons_mk (Below.trod laidOut (by kernel_rfl) (of_decide_eq_true (by kernel_rfl)) k2 bel lt2) (trodAll_cons_mk (Below.trod laidOut (by kernel_rfl) (of_decide_eq_true (by kernel_rfl)) k3 bel lt3) trodAll_mk0)))), rfl, bel.frame _, fun h => by cases h⟩)
theorem over : Rows.clashTwoRow.holds Tryd.pinned (OpenSpec.ofChange Rows.clashTwoSpec) :=
  OpenClaim.holds_of_wide 11 Tryd.f11 rfl rfl rfl rfl rfl rfl rfl ⟨rfl, rfl, rfl, rfl, rfl⟩ rfl rfl rfl rfl rfl (by kernel_rfl) Tryd.func11 (by kernel_rfl)
    (of_decide_eq_true (by kernel_rfl)) (by unfold Func.isWrapper; first | (rw [if_pos (by decide +kernel)]; kernel_rfl) | (rw [if_neg (by decide +kernel)]; exact ⟨rfl, rfl⟩))
    (fun os started H enc _ => lifted os started H enc)
theorem proved : Rows.ClashTwoSaid := over
#print axioms proved
end Go.Proofs.YtpmefpdafkbphaaDoor.clashTwo
namespace Go.Proofs.YtpmefpdafkbphaaDoor
theorem clashTwo_card : Rows.ClashTwoCardSaid :=
  Claim7.holds_tied_plain_at .later [] [.data] true (true, "b2cdc717e06a9a69dffb952adcee5e17eff8733bb3ebd162b7742dfb8a054d42") false
    clashTwo.over (fun _ h => by cases h) (by kernel_rfl) (fun _ h => by cases h) clashTwo_row_tie rfl ⟨rfl, rfl⟩ (by kernel_rfl) rfl
    (fun f fn hf hfn => by
      (obtain rfl : f = 11 := Option.some.inj ((show Tryd.prog.funcNamed Rows.clashTwoRow.func = some 11 by kernel_rfl).symm.trans hf) |>.symm); obtain rfl : fn = Tryd.f11 := (Option.some.inj (Tryd.func11.symm.trans hfn)).symm
      exact ⟨by kernel_rfl, fun j t ht => by
        rw [Tryd.params11] at ht
        have hm : t ∈ ([34, 41] : List Nat) := by
          rcases j with _ | (_ | (_ | (_ | _)))
          all_goals first | (simp at ht; done) | (simp at ht; subst ht; decide)
        simp only [List.mem_cons, List.not_mem_nil, or_false] at hm
        rcases hm with rfl | rfl <;> exact (show Tryd.prog.wantsStandIn _ = false by kernel_rfl)⟩)
    (by kernel_rfl)
#print axioms clashTwo_card
end Go.Proofs.YtpmefpdafkbphaaDoor

/-
  The row and the tied card of IsaTexts.
-/
import Derived.Test.YtpbffmkdchiajaaDoorIsaRow1
import Derived.Test.YtpbffmkdchiajaaDoorIsaLaw3
import Derived.Test.YtpbffmkdchiajaaDoorTie
import Derived.Test.YtpbffmkdchiajaaDoorCards
import Derived.SevenTiedAt
namespace Go.Proofs.YtpbffmkdchiajaaDoor
open Go.ChangeShapes Go.WideShapes Go.ChangeAt Go.RowKit Go.Deep
theorem isaTexts_pre (os : Os) {H : Type} (enc : TypeId × Value → H) :
    (OpenSpec.ofChange Rows.isaTextsSpec).preRow enc Tryd.prog Tryd.f4 Rows.isaTextsRow.domain false Rows.isaTextsRow.laid ((laidWorld os).forCall (fun _ _ => 0) ⟨#[], #[I5 0 0 0 0 0, I5 0 0 0 0 0], []⟩).memory #[I5 0 0 0 0 0, I5 0 0 0 0 0] := by
  have hw : (DataW.whole enc Tryd.prog ((laidWorld os).forCall (fun _ _ => 0) ⟨#[], #[I5 0 0 0 0 0, I5 0 0 0 0 0], []⟩).memory Tryd.f4.params.toList (OpenSpec.ofChange Rows.isaTextsSpec).vars false #[I5 0 0 0 0 0, I5 0 0 0 0 0].toList 8).map (fun x => (x.1, x.2.1)) =
      some ([.agg [.lit (.int .i64 0), .lit (.int .i64 0), .lit (.int .i64 0), .lit (.int .i64 0), .lit (.int .i64 0)], .agg [.lit (.int .i64 0), .lit (.int .i64 0), .lit (.int .i64 0), .lit (.int .i64 0), .lit (.int .i64 0)]], []) := by kernel_rfl
  obtain ⟨⟨x1, x2, x3⟩, hx, hx1⟩ := Option.map_eq_some_iff.1 hw
  simp only [Prod.mk.injEq] at hx1
  obtain ⟨rfl, rfl⟩ := hx1
  exact OpenSpec.preRow_of_cond 8 hx (by kernel_rfl) (fun k hk => by cases hk) (by kernel_rfl) (isa_laid_met os _)
set_option maxRecDepth 100000 in
theorem isaTexts_lifted (os : Os) (started : os.Started) (H : Type) (enc : TypeId × Value → H) (F : Stop.Interp) :
    ReturnsInHanded {} Tryd.checked os 4 .any ((OpenSpec.ofChange Rows.isaTextsSpec).preRow enc Tryd.prog Tryd.f4 Rows.isaTextsRow.domain false Rows.isaTextsRow.laid) (((OpenSpec.ofChange Rows.isaTextsSpec).at F).post enc Tryd.prog Tryd.f4 false true false false) := by
  refine returnsInHanded_of_row (C := Tryd.checked) (s := OpenSpec.ofChange Rows.isaTextsSpec) Tryd.own started (by kernel_rfl) Tryd.func4
    (witness_row_atRef (enc := enc) (C := Tryd.checked) false (laidWorld os) #[I5 0 0 0 0 0, I5 0 0 0 0 0] rfl (by kernel_rfl) (by kernel_rfl) (by kernel_rfl) (isaTexts_pre os enc)) ?_
  intro W base args ds gs before hval0 hW _ _ _ hL hsh _
  have hval : ∀ (j : Nat) t v, Tryd.f4.params[j]? = some t → args[j]? = some v → Value.okWide Tryd.prog W .any base t v := hval0
  have hW' := hW
  obtain ⟨p, q, hA0, hV0, rfl, _, _⟩ := hW
  have hA : DataW.TrodAll enc Tryd.prog W 0 (fun _ => true) true Tryd.f4.params.toList args.toList ds p := hA0
  rw [Tryd.params4] at hA hval
  obtain ⟨v0, v1, d0, d1, p0, p1, rfl, rfl, rfl, h0, h1⟩ := trodAll_two hA
  obtain ⟨rfl, rfl⟩ := trodVars_none hV0
  have hv0 := hval 0 23 v0 rfl rfl
  have hv1 := hval 1 23 v1 rfl rfl
  obtain ⟨z0, z1, z2, z3, z4, rfl⟩ := open_i5 hv0 h0
  obtain ⟨y0, y1, y2, y3, y4, rfl⟩ := open_i5 hv1 h1
  clear hA0 hV0 hval0
  simp only [List.append_nil] at hW'
  have hlt : ∀ x ∈ p0 ++ p1, x.block < W.heap.size := fun x hx => by simpa using hW'.lt x hx
  refine (isaTexts_any z0 z1 z2 z3 z4 y0 y1 y2 y3 y4 W (lawW_of hsh hL)).mono ?_
  rintro e W' ⟨rfl, bel⟩
  refine ⟨_, rfl, _, _, _, [], p0 ++ p1, [], hW', ?_, ?_, ?_, bel.frame _, fun h => by cases h⟩
  · exact trodAll_mk1 (shut_bool Tryd.underlying4 true)
  · exact trodAll_mk2 (Below.trod Tryd.laidOut (by kernel_rfl) (of_decide_eq_true (by kernel_rfl)) h0 bel (fun x hx => hlt x (by simp [hx]))) (Below.trod Tryd.laidOut (by kernel_rfl) (of_decide_eq_true (by kernel_rfl)) h1 bel (fun x hx => hlt x (by simp [hx])))
  · rfl
theorem isaTexts_holds : Rows.IsaTextsSaid :=
  OpenClaim.holds_of_cond 4 Tryd.f4 rfl rfl rfl rfl rfl rfl rfl ⟨rfl, rfl, rfl, rfl, rfl⟩ rfl rfl rfl rfl rfl (by kernel_rfl) Tryd.func4 (by kernel_rfl)
    (of_decide_eq_true (by kernel_rfl)) (by unfold Func.isWrapper; first | (rw [if_pos (by decide +kernel)]; kernel_rfl) | (rw [if_neg (by decide +kernel)]; exact ⟨rfl, rfl⟩))
    (fun os started H enc _ F0 => by rw [OpenClaim.pre_eq_preRow]; exact isaTexts_lifted os started H enc F0)
theorem isaTexts_card : Rows.IsaTextsCardSaid :=
  Claim7.holds_tied_plain_at .later [] [.data, .data, .data, .data, .listed, .data, .data, .pinned] true (true, "8405c9a8d58946574d8e60fd243c37abd746041cd7a59d4d230acb9bf3b17558") false
    isaTexts_holds (fun _ h => by cases h) (by kernel_rfl) (fun _ h => by cases h) isaTexts_row_tie rfl ⟨rfl, rfl⟩ (by kernel_rfl) rfl
    (fun f fn hf hfn => by
      obtain rfl : f = 4 := Option.some.inj ((show Tryd.prog.funcNamed "tourbillon/tourbillonlaw02.IsaTexts" = some 4 by kernel_rfl).symm.trans hf) |>.symm
      obtain rfl : fn = Tryd.f4 := (Option.some.inj (Tryd.func4.symm.trans hfn)).symm
      exact ⟨by kernel_rfl, fun j t ht => by
        rw [Tryd.params4] at ht
        have h3 : t = 23 := by
          rcases j with _ | _ | j
          · simpa using ht.symm
          · simpa using ht.symm
          · simp at ht
        subst h3
        exact (show Tryd.prog.wantsStandIn 23 = false by kernel_rfl)⟩)
    (by kernel_rfl)
end Go.Proofs.YtpbffmkdchiajaaDoor

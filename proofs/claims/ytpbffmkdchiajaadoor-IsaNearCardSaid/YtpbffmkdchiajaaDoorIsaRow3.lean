/-
  The row and the tied card of IsaNear.
-/
import Derived.Test.YtpbffmkdchiajaaDoorIsaRow1
import Derived.Test.YtpbffmkdchiajaaDoorIsaLaw4
import Derived.Test.YtpbffmkdchiajaaDoorTie
import Derived.Test.YtpbffmkdchiajaaDoorCards
import Derived.SevenTiedAt
namespace Go.Proofs.YtpbffmkdchiajaaDoor
open Go.ChangeShapes Go.WideShapes Go.ChangeAt Go.RowKit Go.Deep
theorem isaNear_pre (os : Os) {H : Type} (enc : TypeId × Value → H) :
    (OpenSpec.ofChange Rows.isaNearSpec).preRow enc Tryd.prog Tryd.f5 Rows.isaNearRow.domain false Rows.isaNearRow.laid ((laidWorld os).forCall (fun _ _ => 0) ⟨#[], #[.int .u32 0, .int .i64 0], []⟩).memory #[.int .u32 0, .int .i64 0] := by
  have hw : (DataW.whole enc Tryd.prog ((laidWorld os).forCall (fun _ _ => 0) ⟨#[], #[.int .u32 0, .int .i64 0], []⟩).memory Tryd.f5.params.toList (OpenSpec.ofChange Rows.isaNearSpec).vars false #[.int .u32 0, .int .i64 0].toList 8).map (fun x => (x.1, x.2.1)) =
      some ([.lit (.int .u32 0), .lit (.int .i64 0)], []) := by kernel_rfl
  obtain ⟨⟨x1, x2, x3⟩, hx, hx1⟩ := Option.map_eq_some_iff.1 hw
  simp only [Prod.mk.injEq] at hx1
  obtain ⟨rfl, rfl⟩ := hx1
  exact OpenSpec.preRow_of_cond 8 hx (by kernel_rfl) (fun k hk => by cases hk) (by kernel_rfl) (isa_laid_met os _)
set_option maxRecDepth 100000 in
theorem isaNear_lifted (os : Os) (started : os.Started) (H : Type) (enc : TypeId × Value → H) (F : Stop.Interp) :
    ReturnsInHanded {} Tryd.checked os 5 .any ((OpenSpec.ofChange Rows.isaNearSpec).preRow enc Tryd.prog Tryd.f5 Rows.isaNearRow.domain false Rows.isaNearRow.laid) (((OpenSpec.ofChange Rows.isaNearSpec).at F).post enc Tryd.prog Tryd.f5 false true false false) := by
  refine returnsInHanded_of_row (C := Tryd.checked) (s := OpenSpec.ofChange Rows.isaNearSpec) Tryd.own started (by kernel_rfl) Tryd.func5
    (witness_row_atRef (enc := enc) (C := Tryd.checked) false (laidWorld os) #[.int .u32 0, .int .i64 0] rfl (by kernel_rfl) (by kernel_rfl) (by kernel_rfl) (isaNear_pre os enc)) ?_
  intro W base args ds gs before hval0 hW _ _ _ hL hsh _
  have hval : ∀ (j : Nat) t v, Tryd.f5.params[j]? = some t → args[j]? = some v → Value.okWide Tryd.prog W .any base t v := hval0
  have hW' := hW
  obtain ⟨p, q, hA0, hV0, rfl, _, _⟩ := hW
  have hA : DataW.TrodAll enc Tryd.prog W 0 (fun _ => true) true Tryd.f5.params.toList args.toList ds p := hA0
  rw [Tryd.params5] at hA hval
  obtain ⟨v0, v1, d0, d1, p0, p1, rfl, rfl, rfl, h0, h1⟩ := trodAll_two hA
  obtain ⟨rfl, rfl⟩ := trodVars_none hV0
  obtain ⟨x, rfl, rfl, rfl, wx⟩ := open_int Tryd.underlying26 (hval 0 26 v0 rfl rfl) h0
  obtain ⟨bit, rfl, rfl, rfl, wb⟩ := open_int Tryd.underlying3 (hval 1 3 v1 rfl rfl) h1
  have hx : 0 ≤ x ∧ x < 4294967296 := by
    have h := wx
    unfold Lit.wf at h
    rw [Bool.and_eq_true] at h
    have h1 : (IntKind.u32.min : Int) ≤ x := of_decide_eq_true h.1
    have h2 : x ≤ (IntKind.u32.max : Int) := of_decide_eq_true h.2
    have e1 : IntKind.u32.min = 0 := by decide
    have e2 : IntKind.u32.max = 4294967295 := by decide
    omega
  clear hA0 hV0 hval0
  simp only [List.append_nil] at hW'
  have law : Calls Tryd.prog 5 #[.int .u32 x, .int .i64 bit] W fun e w' => e = .returned (.bool true) ∧ Below W.heap.size W w' := by
    by_cases h : bit < 0 ∨ 31 < bit
    · exact near_out x bit W (lawW_of hsh hL) h
    · exact near_in x bit W (lawW_of hsh hL) hx.1 hx.2 (by omega) (by omega)
  refine law.mono ?_
  rintro e W' ⟨rfl, bel⟩
  refine ⟨_, rfl, _, _, _, [], [], [], hW', ?_, ?_, ?_, bel.frame _, fun h => by cases h⟩
  · exact trodAll_mk1 (shut_bool Tryd.underlying4 true)
  · exact trodAll_mk2 (shut_int Tryd.underlying26 wx) (shut_int Tryd.underlying3 wb)
  · rfl
theorem isaNear_holds : Rows.IsaNearSaid :=
  OpenClaim.holds_of_cond 5 Tryd.f5 rfl rfl rfl rfl rfl rfl rfl ⟨rfl, rfl, rfl, rfl, rfl⟩ rfl rfl rfl rfl rfl (by kernel_rfl) Tryd.func5 (by kernel_rfl)
    (of_decide_eq_true (by kernel_rfl)) (by unfold Func.isWrapper; first | (rw [if_pos (by decide +kernel)]; kernel_rfl) | (rw [if_neg (by decide +kernel)]; exact ⟨rfl, rfl⟩))
    (fun os started H enc _ F0 => by rw [OpenClaim.pre_eq_preRow]; exact isaNear_lifted os started H enc F0)
theorem isaNear_card : Rows.IsaNearCardSaid :=
  Claim7.holds_tied_plain_at .later [] [.data, .data, .data, .data, .listed, .data, .data, .pinned] true (true, "8405c9a8d58946574d8e60fd243c37abd746041cd7a59d4d230acb9bf3b17558") false
    isaNear_holds (fun _ h => by cases h) (by kernel_rfl) (fun _ h => by cases h) isaNear_row_tie rfl ⟨rfl, rfl⟩ (by kernel_rfl) rfl
    (fun f fn hf hfn => by
      obtain rfl : f = 5 := Option.some.inj ((show Tryd.prog.funcNamed "tourbillon/tourbillonlaw02.IsaNear" = some 5 by kernel_rfl).symm.trans hf) |>.symm
      obtain rfl : fn = Tryd.f5 := (Option.some.inj (Tryd.func5.symm.trans hfn)).symm
      exact ⟨by kernel_rfl, fun j t ht => by
        rw [Tryd.params5] at ht
        have h3 : t = 26 ∨ t = 3 := by
          rcases j with _ | _ | j
          · left; simpa using ht.symm
          · right; simpa using ht.symm
          · simp at ht
        rcases h3 with rfl | rfl
        · exact (show Tryd.prog.wantsStandIn 26 = false by kernel_rfl)
        · exact (show Tryd.prog.wantsStandIn 3 = false by kernel_rfl)⟩)
    (by kernel_rfl)
end Go.Proofs.YtpbffmkdchiajaaDoor

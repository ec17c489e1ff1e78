/-
  The rows of the three isa laws, on what their walks say.
-/
import Derived.Test.YtpbffmkdchiajaaDoorLaidMet
import Derived.Test.YtpbffmkdchiajaaDoorIsaLaw2
namespace Go.Proofs.YtpbffmkdchiajaaDoor
open Go.ChangeShapes Go.WideShapes Go.ChangeAt Go.RowKit Go.Deep
theorem Tryd.c23 : Tryd.prog.cellsOf 23 = 5 := by kernel_rfl
theorem Tryd.c3 : Tryd.prog.cellsOf 3 = 1 := by kernel_rfl
section
variable {H : Type} {enc : TypeId × Value → H} {W : World} {sp : Nat → Bool} {d : DataW H} {p : List MemPlace} {base : Nat} {v : Value}
set_option maxRecDepth 100000 in
/-- A struct of five ints by value. -/
theorem open_i5 (hv : Value.okWide Tryd.prog W .any base 23 v) (h : DataW.Trod enc Tryd.prog W 0 sp true 23 v d p) :
    ∃ z0 z1 z2 z3 z4 : Int, v = .agg #[.int .i64 z0, .int .i64 z1, .int .i64 z2, .int .i64 z3, .int .i64 z4] := by
  obtain ⟨cs, rfl, hsz⟩ := okWide_struct Tryd.underlying23 hv
  rw [Tryd.c23] at hsz
  obtain ⟨fuel, hf⟩ := h
  obtain ⟨xs, n, rfl, hx, hl, hxl, hall⟩ := DataW.trod_struct Tryd.underlying23 hf
  have key : ∀ i, i < 5 → ∃ z, cs[i]? = some (Value.int .i64 z) := by
    intro i hi
    obtain ⟨b, hb⟩ : ∃ b, xs[i]? = some b := ⟨xs[i]'(by simp at hxl; omega), List.getElem?_eq_getElem (by simp at hxl; omega)⟩
    have one : ∀ f : Field, f.type = 3 → f.offset = i → DataW.trod enc Tryd.prog W 0 sp true n f.type ((cs.toList.drop f.offset).take (Tryd.prog.cellsOf f.type)) = xs[i]? → ∃ z, cs[i]? = some (Value.int .i64 z) := by
      intro f h1 h2 h3
      rw [h1, h2, hb, Tryd.c3] at h3
      obtain ⟨z, hc, _⟩ := DataW.trod_int Tryd.underlying3 h3
      have := congrArg (·[0]?) hc
      exact ⟨z, by simpa [List.getElem?_take, List.getElem?_drop] using this⟩
    have hh := hall i
    match i, hi with
    | 0, _ => exact one _ rfl rfl (hh _ rfl)
    | 1, _ => exact one _ rfl rfl (hh _ rfl)
    | 2, _ => exact one _ rfl rfl (hh _ rfl)
    | 3, _ => exact one _ rfl rfl (hh _ rfl)
    | 4, _ => exact one _ rfl rfl (hh _ rfl)
  obtain ⟨z0, h0⟩ := key 0 (by omega)
  obtain ⟨z1, h1⟩ := key 1 (by omega)
  obtain ⟨z2, h2⟩ := key 2 (by omega)
  obtain ⟨z3, h3⟩ := key 3 (by omega)
  obtain ⟨z4, h4⟩ := key 4 (by omega)
  refine ⟨z0, z1, z2, z3, z4, ?_⟩
  congr 1
  apply Array.ext_getElem?
  intro i
  match i with
  | 0 => rw [h0]; rfl
  | 1 => rw [h1]; rfl
  | 2 => rw [h2]; rfl
  | 3 => rw [h3]; rfl
  | 4 => rw [h4]; rfl
  | i + 5 => rw [Array.getElem?_eq_none (by omega), Array.getElem?_eq_none (by simp)]
end
def I5 (op d a b imm : Int) : Value := .agg #[.int .i64 op, .int .i64 d, .int .i64 a, .int .i64 b, .int .i64 imm]
theorem isaWrites_pre (os : Os) {H : Type} (enc : TypeId × Value → H) :
    (OpenSpec.ofChange Rows.isaWritesSpec).preRow enc Tryd.prog Tryd.f3 Rows.isaWritesRow.domain false Rows.isaWritesRow.laid ((laidWorld os).forCall (fun _ _ => 0) ⟨#[], #[I5 0 0 0 0 0], []⟩).memory #[I5 0 0 0 0 0] := by
  have hw : (DataW.whole enc Tryd.prog ((laidWorld os).forCall (fun _ _ => 0) ⟨#[], #[I5 0 0 0 0 0], []⟩).memory Tryd.f3.params.toList (OpenSpec.ofChange Rows.isaWritesSpec).vars false #[I5 0 0 0 0 0].toList 8).map (fun x => (x.1, x.2.1)) =
      some ([.agg [.lit (.int .i64 0), .lit (.int .i64 0), .lit (.int .i64 0), .lit (.int .i64 0), .lit (.int .i64 0)]], []) := by kernel_rfl
  obtain ⟨⟨x1, x2, x3⟩, hx, hx1⟩ := Option.map_eq_some_iff.1 hw
  simp only [Prod.mk.injEq] at hx1
  obtain ⟨rfl, rfl⟩ := hx1
  exact OpenSpec.preRow_of_cond 8 hx (by kernel_rfl) (fun k hk => by cases hk) (by kernel_rfl) (isa_laid_met os _)
set_option maxRecDepth 100000 in
theorem isaWrites_lifted (os : Os) (started : os.Started) (H : Type) (enc : TypeId × Value → H) (F : Stop.Interp) :
    ReturnsInHanded {} Tryd.checked os 3 .any ((OpenSpec.ofChange Rows.isaWritesSpec).preRow enc Tryd.prog Tryd.f3 Rows.isaWritesRow.domain false Rows.isaWritesRow.laid) (((OpenSpec.ofChange Rows.isaWritesSpec).at F).post enc Tryd.prog Tryd.f3 false true false false) := by
  refine returnsInHanded_of_row (C := Tryd.checked) (s := OpenSpec.ofChange Rows.isaWritesSpec) Tryd.own started (by kernel_rfl) Tryd.func3
    (witness_row_atRef (enc := enc) (C := Tryd.checked) false (laidWorld os) #[I5 0 0 0 0 0] rfl (by kernel_rfl) (by kernel_rfl) (by kernel_rfl) (isaWrites_pre os enc)) ?_
  intro W base args ds gs before hval0 hW _ _ _ hL hsh _
  have hval : ∀ (j : Nat) t v, Tryd.f3.params[j]? = some t → args[j]? = some v → Value.okWide Tryd.prog W .any base t v := hval0
  have hW' := hW
  obtain ⟨p, q, hA0, hV0, rfl, _, _⟩ := hW
  have hA : DataW.TrodAll enc Tryd.prog W 0 (fun _ => true) true Tryd.f3.params.toList args.toList ds p := hA0
  rw [Tryd.params3] at hA hval
  obtain ⟨v0, d0, rfl, rfl, h0⟩ := trodAll_one hA
  obtain ⟨rfl, rfl⟩ := trodVars_none hV0
  have hv := hval 0 23 v0 rfl rfl
  obtain ⟨z0, z1, z2, z3, z4, rfl⟩ := open_i5 hv h0
  clear hA0 hV0 hval0
  simp only [List.append_nil] at hW'
  have hlt : ∀ x ∈ p, x.block < W.heap.size := fun x hx => by simpa using hW'.lt x hx
  refine (isaWrites_any z0 z1 z2 z3 z4 W (lawW_of hsh hL)).mono ?_
  rintro e W' ⟨rfl, bel⟩
  refine ⟨_, rfl, _, _, _, [], p, [], hW', ?_, ?_, ?_, bel.frame _, fun h => by cases h⟩
  · exact trodAll_mk1 (shut_bool Tryd.underlying4 true)
  · exact trodAll_mk1 (Below.trod Tryd.laidOut (by kernel_rfl) (of_decide_eq_true (by kernel_rfl)) h0 bel hlt)
  · rfl
theorem isaWrites_holds : Rows.IsaWritesSaid :=
  OpenClaim.holds_of_cond 3 Tryd.f3 rfl rfl rfl rfl rfl rfl rfl ⟨rfl, rfl, rfl, rfl, rfl⟩ rfl rfl rfl rfl rfl (by kernel_rfl) Tryd.func3 (by kernel_rfl)
    (of_decide_eq_true (by kernel_rfl)) (by unfold Func.isWrapper; first | (rw [if_pos (by decide +kernel)]; kernel_rfl) | (rw [if_neg (by decide +kernel)]; exact ⟨rfl, rfl⟩))
    (fun os started H enc _ F0 => by rw [OpenClaim.pre_eq_preRow]; exact isaWrites_lifted os started H enc F0)
end Go.Proofs.YtpbffmkdchiajaaDoor

/-
  The row and the tied card of IrParts: for every module and every function the law answers true.
-/
import Derived.Test.YtpbffmkdchiajaaDoorIr15
import Derived.Test.YtpbffmkdchiajaaDoorTie
import Derived.Test.YtpbffmkdchiajaaDoorCards
import Derived.SevenTiedAt
namespace Go.Proofs.YtpbffmkdchiajaaDoor
open Go.ChangeShapes Go.WideShapes Go.ChangeAt Go.RowKit Go.Deep
theorem Tryd.c181 : Tryd.prog.cellsOf 181 = 23 := by kernel_rfl
theorem Tryd.b68 : Tryd.prog.bytesOf 68 = 56 := by kernel_rfl
set_option maxRecDepth 100000 in
theorem names_of_reads {w : World} (h : Lib.VarReads Tryd.prog w "tourbillon/ir.names" Rows.laid_tourbillon_ir_names) : w.cell? ⟨3, 1, none⟩ = some (.string ⟨#[99, 111, 110, 115, 116]⟩) := by
  obtain ⟨g, t, cs, fuel, p, hg, hty, hvar, hd⟩ := h
  obtain rfl := Option.some.inj ((show Tryd.prog.globalNamed "tourbillon/ir.names" = some 3 by kernel_rfl).symm.trans hg)
  obtain rfl := Option.some.inj ((show (Tryd.prog.globals[3]?).map (·.type) = some 181 by kernel_rfl).symm.trans hty)
  obtain ⟨ds, hds, hk⟩ : ∃ ds : List (DataW Unit), Rows.laid_tourbillon_ir_names = .agg ds ∧ ds[1]? = some (.lit (.string [99, 111, 110, 115, 116])) := ⟨_, rfl, rfl⟩
  rw [hds] at hd
  obtain ⟨fuel', d, q, hdk, he⟩ := Lib.array_elem Tryd.underlying181 hd 1 (by omega)
  rw [hk] at hdk
  obtain rfl := Option.some.inj hdk
  rw [Tryd.c9] at he
  obtain ⟨s, hc, hx, _⟩ := DataW.trod_string Tryd.underlying9 he
  simp only [Prod.mk.injEq, DataW.lit.injEq, Lit.string.injEq] at hx
  have hs : s = ⟨#[99, 111, 110, 115, 116]⟩ := str_ext hx.1.symm
  subst hs
  have hc1 := cell_at hc
  rw [World.var?_cell hg hvar 1, ← hc1]
  simp
theorem irW_of {W : World} (hsh : W.ShapedOpen Tryd.prog) (hL : laidMetH Tryd.prog Rows.irPartsRow.laid W) : IrW W := by
  rw [MakeChecks.laidMetH_plain _ _ _ (by kernel_rfl)] at hL
  exact ⟨big_of_shape hsh, pow_of_reads (Lib.laidMet.reads hL (.tail _ (.tail _ (.head _)))), names_of_reads (Lib.laidMet.reads hL (.tail _ (.tail _ (.tail _ (.head _)))))⟩
theorem ir_laid_met (os : Os) (args : Array Value) : laidMetH Tryd.prog Rows.irPartsRow.laid ((laidWorld os).forCall (fun _ _ => 0) ⟨#[], args, []⟩).memory := by
  rw [MakeChecks.laidMetH_plain _ _ _ (by kernel_rfl)]
  exact laidMet_of_run3 8 (by kernel_rfl) (by kernel_rfl) (by kernel_rfl)
def M0 : Value := .agg #[.slice none 0 0, .slice none 0 0]
def F0 : Value := .agg #[.string ⟨#[]⟩, .int .i64 0, .int .i64 0, .slice none 0 0]
theorem irParts_pre (os : Os) {H : Type} (enc : TypeId × Value → H) :
    (OpenSpec.ofChange Rows.irPartsSpec).preRow enc Tryd.prog Tryd.f7 Rows.irPartsRow.domain false Rows.irPartsRow.laid ((laidWorld os).forCall (fun _ _ => 0) ⟨#[], #[M0, F0], []⟩).memory #[M0, F0] := by
  have hw : (DataW.whole enc Tryd.prog ((laidWorld os).forCall (fun _ _ => 0) ⟨#[], #[M0, F0], []⟩).memory Tryd.f7.params.toList (OpenSpec.ofChange Rows.irPartsSpec).vars false #[M0, F0].toList 8).map (fun x => (x.1, x.2.1)) =
      some ([.agg [.nil, .nil], .agg [.lit (.string []), .lit (.int .i64 0), .lit (.int .i64 0), .nil]], []) := by kernel_rfl
  obtain ⟨⟨x1, x2, x3⟩, hx, hx1⟩ := Option.map_eq_some_iff.1 hw
  simp only [Prod.mk.injEq] at hx1
  obtain ⟨rfl, rfl⟩ := hx1
  exact OpenSpec.preRow_of_cond 8 hx (by kernel_rfl) (fun k hk => by cases hk) (by kernel_rfl) (ir_laid_met os _)
set_option maxRecDepth 100000 in
theorem irParts_lifted (os : Os) (started : os.Started) (H : Type) (enc : TypeId × Value → H) (F : Stop.Interp) :
    ReturnsInHanded {} Tryd.checked os 7 .any ((OpenSpec.ofChange Rows.irPartsSpec).preRow enc Tryd.prog Tryd.f7 Rows.irPartsRow.domain false Rows.irPartsRow.laid) (((OpenSpec.ofChange Rows.irPartsSpec).at F).post enc Tryd.prog Tryd.f7 false true false false) := by
  refine returnsInHanded_of_row (C := Tryd.checked) (s := OpenSpec.ofChange Rows.irPartsSpec) Tryd.own started (by kernel_rfl) Tryd.func7
    (witness_row_atRef (enc := enc) (C := Tryd.checked) false (laidWorld os) #[M0, F0] rfl (by kernel_rfl) (by kernel_rfl) (by kernel_rfl) (irParts_pre os enc)) ?_
  intro W base args ds gs before hval0 hW _ _ hsz hL hsh _
  have hval : ∀ (j : Nat) t v, Tryd.f7.params[j]? = some t → args[j]? = some v → Value.okWide Tryd.prog W .any base t v := hval0
  have hW' := hW
  obtain ⟨p, q, hA0, hV0, rfl, _, _⟩ := hW
  have hA : DataW.TrodAll enc Tryd.prog W 0 (fun _ => true) true Tryd.f7.params.toList args.toList ds p := hA0
  rw [Tryd.params7] at hA hval
  obtain ⟨v0, v1, d0, d1, p0, p1, rfl, rfl, rfl, h0, h1⟩ := trodAll_two hA
  obtain ⟨rfl, rfl⟩ := trodVars_none hV0
  have hv0 := hval 0 65 v0 rfl rfl
  have hv1 := hval 1 68 v1 rfl rfl
  obtain ⟨c0, rfl, _⟩ := okWide_struct Tryd.underlying65 hv0
  obtain ⟨c1, rfl, _⟩ := okWide_struct Tryd.underlying68 hv1
  obtain ⟨fuel0, g0⟩ := h0
  obtain ⟨fuel1, g1⟩ := h1
  obtain ⟨m, hm, HM, hnil, hd⟩ := open_mod g0
  obtain ⟨f, hf, HF⟩ := open_func g1
  have e0 : c0 = #[.slice m.fad m.funcs.length m.fcap, .slice m.tad m.threads.length m.tcap] := by
    have : c0.toList = _ := hm
    rw [← Array.toArray_toList (xs := c0), this]
  have e1 : c1 = #[.string f.name, .int .i64 f.params, .int .i64 f.regs, .slice f.ad f.code.length f.cap] := by
    have : c1.toList = _ := hf
    rw [← Array.toArray_toList (xs := c1), this]
    rfl
  have hsz' : (DataW.weightsEach Tryd.prog (Tryd.f7.params.toList ++ DataSpec.varTypes Tryd.prog (OpenSpec.ofChange Rows.irPartsSpec).bare.plain) ([d0, d1] ++ [])).all (fun x => decide (x ≤ reachBytes)) = true := hsz
  have hby : (1 + m.funcs.length) * 56 ≤ 140737488355328 := by
    rcases hd with h | ⟨es, ss, r, h, hes⟩
    · rw [h]; decide
    · have hd0 : d0 = .agg (.slice es ss :: r) := h
      have hh := List.all_eq_true.1 hsz' _ (DataW.weights_mem_each (P := Tryd.prog) (j := 0) (t := 65) (by rw [Tryd.params7]; rfl) rfl ((es.length + ss.length) * Tryd.prog.bytesOf 68)
        (by rw [hd0]; simp [DataW.weights, DataW.weightsEach, Tryd.underlying65, Tryd.underlying63]))
      rw [Tryd.b68, hes] at hh
      have hh2 : (m.funcs.length + ss.length) * 56 ≤ 140737488351232 := of_decide_eq_true hh
      omega
  have h0 : DataW.Trod enc Tryd.prog W 0 (fun _ => true) true 65 (.agg c0) d0 p0 := ⟨fuel0, g0⟩
  have h1 : DataW.Trod enc Tryd.prog W 0 (fun _ => true) true 68 (.agg c1) d1 p1 := ⟨fuel1, g1⟩
  clear g0 g1 hA0 hV0 hval0 hd hsz
  subst e0 e1
  simp only [List.append_nil] at hW'
  have hlt : ∀ x ∈ p0 ++ p1, x.block < W.heap.size := fun x hx => by simpa using hW'.lt x hx
  refine (irParts_any m f W (irW_of hsh hL) HM HF hnil hby).mono ?_
  rintro e W' ⟨rfl, bel⟩
  refine ⟨_, rfl, _, _, _, [], p0 ++ p1, [], hW', ?_, ?_, ?_, bel.frame _, fun h => by cases h⟩
  · exact trodAll_mk1 (shut_bool Tryd.underlying4 true)
  · exact trodAll_mk2 (Below.trod Tryd.laidOut (by kernel_rfl) (of_decide_eq_true (by kernel_rfl)) h0 bel (fun x hx => hlt x (by simp [hx]))) (Below.trod Tryd.laidOut (by kernel_rfl) (of_decide_eq_true (by kernel_rfl)) h1 bel (fun x hx => hlt x (by simp [hx])))
  · rfl
theorem irParts_holds : Rows.IrPartsSaid :=
  OpenClaim.holds_of_cond 7 Tryd.f7 rfl rfl rfl rfl rfl rfl rfl ⟨rfl, rfl, rfl, rfl, rfl⟩ rfl rfl rfl rfl rfl (by kernel_rfl) Tryd.func7 (by kernel_rfl)
    (of_decide_eq_true (by kernel_rfl)) (by unfold Func.isWrapper; first | (rw [if_pos (by decide +kernel)]; kernel_rfl) | (rw [if_neg (by decide +kernel)]; exact ⟨rfl, rfl⟩))
    (fun os started H enc _ F0 => by rw [OpenClaim.pre_eq_preRow]; exact irParts_lifted os started H enc F0)
theorem irParts_card : Rows.IrPartsCardSaid :=
  Claim7.holds_tied_plain_at .later [] [.data, .data, .data, .data] true (true, "8405c9a8d58946574d8e60fd243c37abd746041cd7a59d4d230acb9bf3b17558") false
    irParts_holds (fun _ h => by cases h) (by kernel_rfl) (fun _ h => by cases h) irParts_row_tie rfl ⟨rfl, rfl⟩ (by kernel_rfl) rfl
    (fun f fn hf hfn => by
      obtain rfl : f = 7 := Option.some.inj ((show Tryd.prog.funcNamed "tourbillon/tourbillonlaw08.IrParts" = some 7 by kernel_rfl).symm.trans hf) |>.symm
      obtain rfl : fn = Tryd.f7 := (Option.some.inj (Tryd.func7.symm.trans hfn)).symm
      exact ⟨by kernel_rfl, fun j t ht => by
        rw [Tryd.params7] at ht
        have h3 : t = 65 ∨ t = 68 := by
          rcases j with _ | _ | j
          · left; simpa using ht.symm
          · right; simpa using ht.symm
          · simp at ht
        rcases h3 with h3 | h3
        · subst h3; exact (show Tryd.prog.wantsStandIn 65 = false by kernel_rfl)
        · subst h3; exact (show Tryd.prog.wantsStandIn 68 = false by kernel_rfl)⟩)
    (by kernel_rfl)
end Go.Proofs.YtpbffmkdchiajaaDoor

/-
  The listed tables: a world in which they lie; what a row's condition on them pays to the walks.
-/
import Derived.Test.YtpbffmkdchiajaaDoorIsaLaw1
import Derived.Test.YtpbffmkdchiajaaDoorRows
import Derived.ProofKit
import Derived.Lib.LaidU8
import Derived.Deep.DeepHandedRow
import Derived.Deep.DeepWitnessRowRef
import Derived.Carry
import Derived.Deep.DeepLaidRun
import Derived.Deep.Strs
import Derived.LaidByTextLater
namespace Go.Proofs.YtpbffmkdchiajaaDoor
open Go.ChangeShapes Go.WideShapes Go.ChangeAt Go.RowKit Go.Deep
theorem Tryd.own : ownKnob Tryd.prog.godebug = none := by kernel_rfl
theorem Tryd.laidOut : laidOutB Tryd.prog = true := by kernel_rfl
def put (h : Array Obj) (g : Nat) (cs : Array Value) : Array Obj := h.modify g fun
  | .cells _ t frozen => .cells cs t frozen
  | o => o
def u8s (l : List Int) : Array Value := (l.map fun z => Value.int .u8 z).toArray
def tabStrs (l : List (List UInt8)) : Array Value := (l.map fun z => Value.string ⟨z.toArray⟩).toArray
def litCells {H : Type} : List (DataW H) → List Value
  | [] => []
  | .lit (.int k n) :: r => .int k n :: litCells r
  | .lit (.string s) :: r => .string ⟨s.toArray⟩ :: litCells r
  | _ :: r => litCells r
def flatCells {H : Type} : DataW H → List Value
  | .agg l => l.flatMap fun
    | .agg m => litCells m
    | .lit x => litCells ([.lit x] : List (DataW H))
    | _ => []
  | _ => []
/-- THE WITNESS's WORLD: the settled world, two blocks more (unicode.White_Space's ranges; its table), and every listed variable as its initialiser lays it. -/
noncomputable def laidWorld (os : Os) : World :=
  let N := (World.settled Tryd.prog os).heap.size
  let w0 := World.holding Tryd.prog os ⟨#[.cells (Lib.whiteT.map fun (z : Nat) => Value.int .u16 (z : Int)).toArray 224, .cells #[.slice (some ⟨N, 0, none⟩) 7 7, .slice none 0 0, .int .i64 2] 221], #[], []⟩
  let h0 := put w0.heap 0 (flatCells (H := Unit) Rows.laid_tourbillon_isa_shapes).toArray
  let h1 := put h0 1 (flatCells (H := Unit) Rows.laid_tourbillon_image_roles).toArray
  let h2 := put h1 2 (flatCells (H := Unit) Rows.laid_strings_asciiSpace).toArray
  let h3 := put h2 3 (flatCells (H := Unit) Rows.laid_tourbillon_ir_names).toArray
  let h4 := put h3 4 #[.pointer (some ⟨N + 1, 0, none⟩)]
  let h5 := put h4 5 (flatCells (H := Unit) Rows.laid_internal_strconv_uint64pow10).toArray
  let h6 := put h5 6 (flatCells (H := Unit) Rows.laid_unicode_utf8_first).toArray
  let h7 := put h6 7 (flatCells (H := Unit) Rows.laid_unicode_utf8_acceptRanges).toArray
  let h9 := put h7 9 (flatCells (H := Unit) Rows.laid_math_bits_deBruijn32tab).toArray
  let h10 := put h9 10 (flatCells (H := Unit) Rows.laid_math_bits_deBruijn64tab).toArray
  { w0 with heap := h10 }
theorem big_of_shape {W : World} (h : W.ShapedOpen Tryd.prog) : 12 ≤ W.heap.size := by
  obtain ⟨⟨z, t⟩, hz⟩ := Option.isSome_iff_exists.1 (show (((begin Tryd.prog (fun _ _ => 0) default).world.heap[11]?).bind Obj.row?).isSome = true by kernel_rfl)
  obtain ⟨cs, hh, _⟩ := h.1 11 z t (of_decide_eq_true (by kernel_rfl)) hz
  have := (Array.getElem?_eq_some_iff.1 hh).1
  omega
theorem Tryd.c87 : Tryd.prog.cellsOf 87 = 3 := by kernel_rfl
theorem Tryd.c88 : Tryd.prog.cellsOf 88 = 69 := by kernel_rfl
theorem Tryd.c5 : Tryd.prog.cellsOf 5 = 1 := by kernel_rfl
theorem Tryd.c159 : Tryd.prog.cellsOf 159 = 256 := by kernel_rfl
theorem Tryd.c210 : Tryd.prog.cellsOf 210 = 1 := by kernel_rfl
theorem Tryd.c237 : Tryd.prog.cellsOf 237 = 20 := by kernel_rfl
theorem Tryd.c9 : Tryd.prog.cellsOf 9 = 1 := by kernel_rfl
theorem Tryd.c26 : Tryd.prog.cellsOf 26 = 1 := by kernel_rfl
theorem shapes_at (k : Nat) (h1 : 1 ≤ k) (h2 : k ≤ 22) : ∃ ds : List (DataW Unit), Rows.laid_tourbillon_isa_shapes = .agg ds ∧ ds[k]? = some (.agg [.lit (.string (nmT k).data.toList), .lit (.string (flT k).data.toList), .lit (.int .u32 (wtT k))]) := by
  refine ⟨_, rfl, ?_⟩
  rcases nat_cases h1 h2 with h | h | h | h | h | h | h | h | h | h | h | h | h | h | h | h | h | h | h | h | h | h <;> subst h <;> rfl
theorem str_ext {s t : ByteArray} (h : s.data.toList = t.data.toList) : s = t := by
  cases s; cases t; simp at h; rw [h]
theorem shp_of_reads {w : World} (hw : 12 ≤ w.heap.size) (h : Lib.VarReads Tryd.prog w "tourbillon/isa.shapes" Rows.laid_tourbillon_isa_shapes) : Shp nmT flT wtT w := by
  obtain ⟨g, t, cs, fuel, p, hg, hty, hvar, hd⟩ := h
  obtain rfl := Option.some.inj ((show Tryd.prog.globalNamed "tourbillon/isa.shapes" = some 0 by kernel_rfl).symm.trans hg)
  obtain rfl := Option.some.inj ((show (Tryd.prog.globals[0]?).map (·.type) = some 88 by kernel_rfl).symm.trans hty)
  have key : ∀ k, 1 ≤ k → k ≤ 22 → w.cell? ⟨0, k * 3, none⟩ = some (.string (nmT k)) ∧ w.cell? ⟨0, k * 3 + 1, none⟩ = some (.string (flT k)) ∧ w.cell? ⟨0, k * 3 + 2, none⟩ = some (.int .u32 (wtT k)) := by
    intro k h1 h2
    obtain ⟨ds, hds, hk⟩ := shapes_at k h1 h2
    rw [hds] at hd
    obtain ⟨fuel', d, q, hdk, he⟩ := Lib.array_elem Tryd.underlying88 hd k (by omega)
    rw [hk] at hdk
    obtain rfl := Option.some.inj hdk
    rw [Tryd.c87] at he
    obtain ⟨y0, y1, y2, n, hx, _, e0, e1, e2⟩ := trod_struct3 Tryd.underlying87 he
    rw [Tryd.c9] at e0 e1
    rw [Tryd.c26] at e2
    obtain ⟨s0, c0, rfl, _⟩ := DataW.trod_string Tryd.underlying9 e0
    obtain ⟨s1, c1, rfl, _⟩ := DataW.trod_string Tryd.underlying9 e1
    obtain ⟨z, c2, rfl, _⟩ := DataW.trod_int Tryd.underlying26 e2
    simp only [Prod.mk.injEq, DataW.agg.injEq, List.cons.injEq, DataW.lit.injEq, Lit.string.injEq, Lit.int.injEq, true_and, and_true] at hx
    obtain ⟨⟨x0, x1, rfl⟩, _⟩ := hx
    have y0 := str_ext x0
    have y1 := str_ext x1
    subst y0 y1
    have f0 := congrArg (·[0]?) c0
    have f1 := congrArg (·[0]?) c1
    have f2 := congrArg (·[0]?) c2
    simp [List.getElem?_take, List.getElem?_drop] at f0 f1 f2
    refine ⟨?_, ?_, ?_⟩
    · rw [World.var?_cell hg hvar (k * 3), ← f0]
    · rw [World.var?_cell hg hvar (k * 3 + 1), ← f1]
    · rw [World.var?_cell hg hvar (k * 3 + 2), ← f2]
  exact ⟨by omega, fun k h1 h2 => (key k h1 h2).1, fun k h1 h2 => (key k h1 h2).2.1, fun k h1 h2 => (key k h1 h2).2.2⟩
theorem pow_of_reads {w : World} (h : Lib.VarReads Tryd.prog w "internal/strconv.uint64pow10" Rows.laid_internal_strconv_uint64pow10) : Lib.TabIs Tryd.prog w "internal/strconv.uint64pow10" .u64 Lib.pow10Tab := by
  obtain ⟨g, t, cs, fuel, p, hg, hty, hvar, hd⟩ := h
  obtain rfl := Option.some.inj ((show Tryd.prog.globalNamed "internal/strconv.uint64pow10" = some 5 by kernel_rfl).symm.trans hg)
  obtain rfl := Option.some.inj ((show (Tryd.prog.globals[5]?).map (·.type) = some 237 by kernel_rfl).symm.trans hty)
  rw [show Rows.laid_internal_strconv_uint64pow10 (H := Unit) = Lib.tabData .u64 Lib.pow10Tab by kernel_rfl] at hd
  unfold Lib.TabIs
  rw [hvar, ← Lib.cells_of_tab Tryd.underlying237 Tryd.underlying210 Tryd.c210 Tryd.c237 hd]
theorem spc_of_reads {w : World} (h : Lib.VarReads Tryd.prog w "strings.asciiSpace" Rows.laid_strings_asciiSpace) : Lib.TabIs Tryd.prog w "strings.asciiSpace" .u8 Lib.asciiSpaceTab := by
  obtain ⟨g, t, cs, fuel, p, hg, hty, hvar, hd⟩ := h
  obtain rfl := Option.some.inj ((show Tryd.prog.globalNamed "strings.asciiSpace" = some 2 by kernel_rfl).symm.trans hg)
  obtain rfl := Option.some.inj ((show (Tryd.prog.globals[2]?).map (·.type) = some 159 by kernel_rfl).symm.trans hty)
  rw [show Rows.laid_strings_asciiSpace (H := Unit) = Lib.tabData .u8 Lib.asciiSpaceTab by kernel_rfl] at hd
  unfold Lib.TabIs
  rw [hvar, ← Lib.cells_of_tab Tryd.underlying159 Tryd.underlying5 Tryd.c5 Tryd.c159 hd]
theorem lawW_of {W : World} (hsh : W.ShapedOpen Tryd.prog) (hL : laidMetH Tryd.prog Rows.isaWritesRow.laid W) : LawW W := by
  rw [MakeChecks.laidMetH_plain _ _ _ (by kernel_rfl)] at hL
  have hb := big_of_shape hsh
  exact ⟨shp_of_reads hb (Lib.laidMet.reads hL (.tail _ (.tail _ (.tail _ (.tail _ (.tail _ (.tail _ (.head _)))))))), hb, pow_of_reads (Lib.laidMet.reads hL (.tail _ (.tail _ (.head _)))), spc_of_reads (Lib.laidMet.reads hL (.tail _ (.tail _ (.tail _ (.tail _ (.tail _ (.head _)))))))⟩
end Go.Proofs.YtpbffmkdchiajaaDoor

/-
  What the row's reading of a module and a function gives to the walk: the data of package ir, opened.
-/
import Derived.Test.YtpbffmkdchiajaaDoorIr14
import Derived.Test.YtpbffmkdchiajaaDoorIsaRow1
import Derived.Deep.Slices
import Derived.SizedLaws
namespace Go.Proofs.YtpbffmkdchiajaaDoor
open Go.ChangeShapes Go.WideShapes Go.ChangeAt Go.RowKit Go.Deep
theorem Tryd.c39 : Tryd.prog.cellsOf 39 = 1 := by kernel_rfl
theorem Tryd.c63 : Tryd.prog.cellsOf 63 = 1 := by kernel_rfl
theorem Tryd.c66 : Tryd.prog.cellsOf 66 = 1 := by kernel_rfl
theorem Tryd.c4 : Tryd.prog.cellsOf 4 = 1 := by kernel_rfl
theorem Tryd.c71 : Tryd.prog.cellsOf 71 = 9 := by kernel_rfl
theorem Tryd.c68 : Tryd.prog.cellsOf 68 = 4 := by kernel_rfl
theorem Tryd.c65 : Tryd.prog.cellsOf 65 = 2 := by kernel_rfl
theorem cell_at {cs : List Value} {o : Nat} {v : Value} (h : (cs.drop o).take 1 = [v]) : cs[o]? = some v := by
  have := congrArg (·[0]?) h
  simpa [List.getElem?_take, List.getElem?_drop] using this
section
variable {H : Type} {enc : TypeId × Value → H} {w : World} {sp : Nat → Bool} {held : Bool}
theorem open_row_ints {fuel : Nat} {cs : List Value} {x : DataW H × List MemPlace} (h : DataW.trod enc Tryd.prog w 0 sp held fuel 39 cs = some x) :
    ∃ (ad : Option Addr) (cap : Nat) (zs : List Int), cs = [.slice ad zs.length cap] ∧ IntsOk w ad zs := by
  rcases open_ints Tryd.underlying39 Tryd.underlying3 Tryd.c3 h with ⟨rfl, _⟩ | ⟨a, len, cap, zs, rfl, _, hl, hm, hz, _, hcell, _⟩
  · exact ⟨none, 0, [], rfl, ints_none w none⟩
  · unfold maxLen at hm
    have hlz : len ≤ zs.length := by rw [hz]; split <;> omega
    have hlen : (zs.take len).length = len := by simp; omega
    refine ⟨some a, cap, zs.take len, by rw [hlen], by omega, fun h0 => ?_⟩
    obtain ⟨b, off, spot⟩ := a
    have hspot : spot = none := by simpa [Addr.add] using World.cell?_spot (hcell 0 (by omega))
    subst hspot
    refine ⟨b, off, rfl, World.block_lt_of_cell? _ _ (hcell 0 (by omega)), fun j hj => ?_⟩
    have hc := hcell j (by omega)
    rw [addr_add] at hc
    rw [hc]
    simp [List.getD, show j < len by omega]
theorem open_ins {fuel : Nat} {cs : List Value} {x : DataW H × List MemPlace} (h : DataW.trod enc Tryd.prog w 0 sp held fuel 71 cs = some x) :
    ∃ X : InsD, cs = X.enc ∧ IntsOk w X.ad X.args := by
  obtain ⟨xs, n, rfl, rfl, hl, hxl, hall⟩ := DataW.trod_struct Tryd.underlying71 h
  rw [Tryd.c71] at hl
  have hx : ∀ i, i < 9 → ∃ y, xs[i]? = some y := fun i hi => ⟨xs[i]'(by simp at hxl; omega), List.getElem?_eq_getElem _⟩
  have num : ∀ (i : Nat) (f : Field), i < 9 → f.type = 3 → DataW.trod enc Tryd.prog w 0 sp held n f.type ((cs.drop f.offset).take (Tryd.prog.cellsOf f.type)) = xs[i]? → ∃ z, cs[f.offset]? = some (.int .i64 z) := by
    intro i f hi ht hh
    obtain ⟨y, hy⟩ := hx i hi
    rw [ht, hy, Tryd.c3] at hh
    obtain ⟨z, hc, _⟩ := DataW.trod_int Tryd.underlying3 hh
    exact ⟨z, cell_at hc⟩
  have bol : ∀ (i : Nat) (f : Field), i < 9 → f.type = 4 → DataW.trod enc Tryd.prog w 0 sp held n f.type ((cs.drop f.offset).take (Tryd.prog.cellsOf f.type)) = xs[i]? → ∃ z, cs[f.offset]? = some (.bool z) := by
    intro i f hi ht hh
    obtain ⟨y, hy⟩ := hx i hi
    rw [ht, hy, Tryd.c4] at hh
    obtain ⟨z, hc, _⟩ := DataW.trod_bool Tryd.underlying4 hh
    exact ⟨z, cell_at hc⟩
  obtain ⟨z0, h0⟩ := num 0 _ (by omega) rfl (hall 0 _ rfl)
  obtain ⟨z1, h1⟩ := num 1 _ (by omega) rfl (hall 1 _ rfl)
  obtain ⟨z2, h2⟩ := num 2 _ (by omega) rfl (hall 2 _ rfl)
  obtain ⟨z3, h3⟩ := num 3 _ (by omega) rfl (hall 3 _ rfl)
  obtain ⟨z4, h4⟩ := num 4 _ (by omega) rfl (hall 4 _ rfl)
  obtain ⟨z6, h6⟩ := num 6 _ (by omega) rfl (hall 6 _ rfl)
  obtain ⟨z7, h7⟩ := bol 7 _ (by omega) rfl (hall 7 _ rfl)
  obtain ⟨z8, h8⟩ := bol 8 _ (by omega) rfl (hall 8 _ rfl)
  have h5 : ∃ (ad : Option Addr) (cap : Nat) (zs : List Int), cs[5]? = some (.slice ad zs.length cap) ∧ IntsOk w ad zs := by
    have hh := hall 5 _ rfl
    obtain ⟨y, hy⟩ := hx 5 (by omega)
    rw [hy] at hh
    change DataW.trod enc Tryd.prog w 0 sp held n 39 ((cs.drop 5).take (Tryd.prog.cellsOf 39)) = some y at hh
    rw [Tryd.c39] at hh
    obtain ⟨ad, cap, zs, hc, hi⟩ := open_row_ints hh
    exact ⟨ad, cap, zs, cell_at hc, hi⟩
  obtain ⟨ad, cap, zs, h5, hi⟩ := h5
  refine ⟨⟨z0, z1, z2, z3, z4, ad, cap, zs, z6, z7, z8⟩, ?_, hi⟩
  apply List.ext_getElem?
  intro i
  match i with
  | 0 => exact h0
  | 1 => exact h1
  | 2 => exact h2
  | 3 => exact h3
  | 4 => exact h4
  | 5 => exact h5
  | 6 => exact h6
  | 7 => exact h7
  | 8 => exact h8
  | i + 9 => rw [List.getElem?_eq_none (by omega), List.getElem?_eq_none (by simp [InsD.enc])]
/-- Rows of structs of k cells, of a shape that each element opens to. -/
theorem open_row_structs {α : Type} [Inhabited α] {t e k : Nat} (E : α → List Value) (G : α → Prop) (hE : ∀ a, (E a).length = k) (hk0 : 0 < k) (hu : Tryd.prog.underlying t = some (.slice e)) (hc : Tryd.prog.cellsOf e = k)
    (each : ∀ n cs y, DataW.trod enc Tryd.prog w 0 sp held n e cs = some y → ∃ a, cs = E a ∧ G a) {fuel : Nat} {cs : List Value} {x : DataW H × List MemPlace} (h : DataW.trod enc Tryd.prog w 0 sp held fuel t cs = some x) :
    ∃ (ad : Option Addr) (cap : Nat) (l : List α), cs = [.slice ad l.length cap] ∧ RowsOk w ad k (l.map E) ∧ (∀ a ∈ l, G a) ∧ (ad = none → cap = 0) ∧
      ((x.1 = .nil ∧ l.length = 0) ∨ ∃ es ss, x.1 = .slice es ss ∧ es.length = l.length) := by
  rcases open_slice hu h with ⟨rfl, rfl⟩ | ⟨a, len, cap, m, n, D, Pl, rfl, _, hl, hm, hmm, rfl, hx⟩
  · exact ⟨none, 0, [], rfl, ⟨by simp, fun h => by simp at h⟩, (fun a ha => by cases ha), fun _ => rfl, .inl ⟨rfl, rfl⟩⟩
  · unfold maxLen at hm
    have hlm : len ≤ m := by rw [hmm]; split <;> omega
    rw [hc] at hx
    obtain ⟨A, hA⟩ := choose_lt (α := α) (n := len) (p := fun i q => G q ∧ ∀ j, j < k → w.cell? ((a.add (i * k)).add j) = (E q)[j]?) (fun i hi => by
      obtain ⟨cs', h1, h2⟩ := hx i (by omega)
      obtain ⟨_, _, h3⟩ := World.cells?_some h1
      obtain ⟨q, rfl, hG⟩ := each _ _ _ h2
      exact ⟨q, hG, h3⟩)
    have hlen : ((List.range len).map A).length = len := by simp
    refine ⟨some a, cap, (List.range len).map A, by rw [hlen], ⟨by simp; omega, fun h0 => ?_⟩, ?_, (fun h => by cases h), .inr ⟨_, _, rfl, by simp⟩⟩
    · have hl0 : 0 < len := by simpa using h0
      have hc0 := (hA 0 hl0).2 0 hk0
      rw [List.getElem?_eq_getElem (by rw [hE]; exact hk0)] at hc0
      obtain ⟨b, off, spot⟩ := a
      have hspot : spot = none := by simpa [Addr.add] using World.cell?_spot hc0
      subst hspot
      simp only [addr_add] at hc0 hA
      refine ⟨b, off, rfl, World.block_lt_of_cell? _ _ hc0, fun j hj i v hv => ?_⟩
      have hj' : j < len := by simpa using hj
      have hq : (((List.range len).map A).map E).getD j [] = E (A j) := by simp [List.getD, hj']
      rw [hq] at hv
      have hi : i < k := by have := (List.getElem?_eq_some_iff.1 hv).1; rw [hE] at this; exact this
      rw [(hA j hj').2 i hi, hv]
    · intro q hq
      obtain ⟨i, hi, rfl⟩ := List.mem_map.1 hq
      exact (hA i (List.mem_range.1 hi)).1
theorem open_func {fuel : Nat} {cs : List Value} {x : DataW H × List MemPlace} (h : DataW.trod enc Tryd.prog w 0 sp held fuel 68 cs = some x) :
    ∃ F : FuncD, cs = F.enc ∧ F.Ok w := by
  obtain ⟨xs, n, rfl, rfl, hl, hxl, hall⟩ := DataW.trod_struct Tryd.underlying68 h
  rw [Tryd.c68] at hl
  have hx : ∀ i, i < 4 → ∃ y, xs[i]? = some y := fun i hi => ⟨xs[i]'(by simp at hxl; omega), List.getElem?_eq_getElem _⟩
  have h0 : ∃ s, cs[0]? = some (.string s) := by
    have hh := hall 0 _ rfl
    obtain ⟨y, hy⟩ := hx 0 (by omega)
    rw [hy] at hh
    change DataW.trod enc Tryd.prog w 0 sp held n 9 ((cs.drop 0).take (Tryd.prog.cellsOf 9)) = some y at hh
    rw [Tryd.c9] at hh
    obtain ⟨s, hc, _⟩ := DataW.trod_string Tryd.underlying9 hh
    exact ⟨s, cell_at hc⟩
  have h1 : ∃ z, cs[1]? = some (.int .i64 z) := by
    have hh := hall 1 _ rfl
    obtain ⟨y, hy⟩ := hx 1 (by omega)
    rw [hy] at hh
    change DataW.trod enc Tryd.prog w 0 sp held n 3 ((cs.drop 1).take (Tryd.prog.cellsOf 3)) = some y at hh
    rw [Tryd.c3] at hh
    obtain ⟨z, hc, _⟩ := DataW.trod_int Tryd.underlying3 hh
    exact ⟨z, cell_at hc⟩
  have h2 : ∃ z, cs[2]? = some (.int .i64 z) := by
    have hh := hall 2 _ rfl
    obtain ⟨y, hy⟩ := hx 2 (by omega)
    rw [hy] at hh
    change DataW.trod enc Tryd.prog w 0 sp held n 3 ((cs.drop 2).take (Tryd.prog.cellsOf 3)) = some y at hh
    rw [Tryd.c3] at hh
    obtain ⟨z, hc, _⟩ := DataW.trod_int Tryd.underlying3 hh
    exact ⟨z, cell_at hc⟩
  have h3 : ∃ (ad : Option Addr) (cap : Nat) (l : List InsD), cs[3]? = some (.slice ad l.length cap) ∧ RowsOk w ad 9 (l.map InsD.enc) ∧ ∀ a ∈ l, IntsOk w a.ad a.args := by
    have hh := hall 3 _ rfl
    obtain ⟨y, hy⟩ := hx 3 (by omega)
    rw [hy] at hh
    change DataW.trod enc Tryd.prog w 0 sp held n 66 ((cs.drop 3).take (Tryd.prog.cellsOf 66)) = some y at hh
    rw [Tryd.c66] at hh
    obtain ⟨ad, cap, l, hc, hr, hg, _⟩ := open_row_structs InsD.enc (fun a => IntsOk w a.ad a.args) (fun _ => rfl) (by omega) Tryd.underlying66 Tryd.c71 (fun _ _ _ h => open_ins h) hh
    exact ⟨ad, cap, l, cell_at hc, hr, hg⟩
  obtain ⟨s, h0⟩ := h0
  obtain ⟨z1, h1⟩ := h1
  obtain ⟨z2, h2⟩ := h2
  obtain ⟨ad, cap, l, h3, hr, hg⟩ := h3
  refine ⟨⟨s, z1, z2, ad, cap, l⟩, ?_, hr, hg⟩
  apply List.ext_getElem?
  intro i
  match i with
  | 0 => exact h0
  | 1 => exact h1
  | 2 => exact h2
  | 3 => exact h3
  | i + 4 => rw [List.getElem?_eq_none (by omega), List.getElem?_eq_none (by simp [FuncD.enc])]
theorem open_mod {fuel : Nat} {cs : List Value} {x : DataW H × List MemPlace} (h : DataW.trod enc Tryd.prog w 0 sp held fuel 65 cs = some x) :
    ∃ M : ModD, cs = [.slice M.fad M.funcs.length M.fcap, .slice M.tad M.threads.length M.tcap] ∧ M.Ok w ∧ (M.fad = none → M.fcap = 0) ∧
      (M.funcs.length = 0 ∨ ∃ es ss r, x.1 = .agg (.slice es ss :: r) ∧ es.length = M.funcs.length) := by
  obtain ⟨xs, n, rfl, rfl, hl, hxl, hall⟩ := DataW.trod_struct Tryd.underlying65 h
  rw [Tryd.c65] at hl
  have hx : ∀ i, i < 2 → ∃ y, xs[i]? = some y := fun i hi => ⟨xs[i]'(by simp at hxl; omega), List.getElem?_eq_getElem _⟩
  have hh0 := hall 0 _ rfl
  obtain ⟨y0, hy0⟩ := hx 0 (by omega)
  rw [hy0] at hh0
  change DataW.trod enc Tryd.prog w 0 sp held n 63 ((cs.drop 0).take (Tryd.prog.cellsOf 63)) = some y0 at hh0
  rw [Tryd.c63] at hh0
  obtain ⟨ad, cap, l, hc0, hr, hg, hnil, hd⟩ := open_row_structs FuncD.enc (fun a => a.Ok w) (fun _ => rfl) (by omega) Tryd.underlying63 Tryd.c68 (fun _ _ _ h => open_func h) hh0
  have hh1 := hall 1 _ rfl
  obtain ⟨y1, hy1⟩ := hx 1 (by omega)
  rw [hy1] at hh1
  change DataW.trod enc Tryd.prog w 0 sp held n 39 ((cs.drop 1).take (Tryd.prog.cellsOf 39)) = some y1 at hh1
  rw [Tryd.c39] at hh1
  obtain ⟨tad, tcap, zs, hc1, hi⟩ := open_row_ints hh1
  have h0 := cell_at hc0
  have h1 := cell_at hc1
  refine ⟨⟨ad, cap, l, tad, tcap, zs⟩, ?_, ⟨hr, hg, hi⟩, hnil, ?_⟩
  · apply List.ext_getElem?
    intro i
    match i with
    | 0 => exact h0
    | 1 => exact h1
    | i + 2 => rw [List.getElem?_eq_none (by omega), List.getElem?_eq_none (by simp)]
  · rcases hd with ⟨_, h⟩ | ⟨es, ss, h, hes⟩
    · exact .inl h
    · refine .inr ⟨es, ss, ((xs.drop 1).map (·.1)), ?_, hes⟩
      match xs, hy0 with
      | q :: r, hq =>
        simp at hq
        subst hq
        simp [h]
end
end Go.Proofs.YtpbffmkdchiajaaDoor

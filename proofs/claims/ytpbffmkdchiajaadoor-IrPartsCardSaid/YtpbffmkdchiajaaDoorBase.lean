/-
  Small lemmas on worlds, blocks and endings that the walks of this claim use; no condition of its own.
-/
import Derived.WalkKit
import Derived.WalkSpells
import Derived.WalkLawsBesides
import Derived.Deep.QuietTactic
import Derived.BigQuiet
import Derived.Lib.ConvBytes
import Derived.Lib.Hide
import Derived.Deep.LoopGhost
import Derived.OneCell
import Derived.Laws.Cells
import Derived.Laws.Rows
namespace Go.Proofs.YtpbffmkdchiajaaDoor
open Go.RowKit

theorem ret_int {k : IntKind} {a b : Int} (h : a = b) : Ending.returned (.int k a) = .returned (.int k b) := by rw [h]
theorem ret_bool {a b : Bool} (h : a = true ↔ b = true) : Ending.returned (.bool a) = .returned (.bool b) := by rw [Bool.eq_iff_iff.2 h]
theorem ret_val {a b : Value} (h : a = b) : Ending.returned a = .returned b := by rw [h]
theorem quiet_same {P : Program} {f : FuncId} {args : Array Value} {w : World} {n : Nat} {v : Value}
    (h : Calls P f args (w.drewN n) fun e w' => e = .returned v ∧ w.drewN n = w') : Calls P f args (w.drewN n) fun e w'' => e = .returned v ∧ ∃ m, w'' = w.drewN m :=
  h.mono fun _ _ ⟨he, hm⟩ => ⟨he, n, hm.symm⟩

/-! ### a block of plain cells -/
def Blk (w : World) (b : Nat) (cs : Array Value) (t : TypeId) : Prop := w.heap[b]? = some (.cells cs t (0, 0))
theorem Blk.cell {w : World} {b : Nat} {cs : Array Value} {t : TypeId} (h : Blk w b cs t) (j : Nat) : w.cell? ⟨b, j, none⟩ = cs[j]? := by
  unfold Blk at h; simp [World.cell?, h]
theorem Blk.free {w : World} {b : Nat} {cs : Array Value} {t : TypeId} (h : Blk w b cs t) (j : Nat) : w.frozen? ⟨b, j, none⟩ = false := by
  unfold Blk at h; simp [World.frozen?, h]
theorem Blk.lt {w : World} {b : Nat} {cs : Array Value} {t : TypeId} (h : Blk w b cs t) : b < w.heap.size := by
  unfold Blk at h; exact (Array.getElem?_eq_some_iff.1 h).1
theorem Blk.set {w : World} {b : Nat} {cs : Array Value} {t : TypeId} (h : Blk w b cs t) (j : Nat) (v : Value) : Blk (w.setCell ⟨b, j, none⟩ v) b (cs.setIfInBounds j v) t := by
  unfold Blk at h ⊢; simp [World.setCell, Array.getElem?_modify, h]
theorem Blk.set_ne {w : World} {b : Nat} {cs : Array Value} {t : TypeId} (h : Blk w b cs t) {a : Addr} (hb : a.block ≠ b) (v : Value) : Blk (w.setCell a v) b cs t := by
  unfold Blk at h ⊢; simp [World.setCell, Array.getElem?_modify, h, hb]
theorem Blk.below {w w' : World} {b B : Nat} {cs : Array Value} {t : TypeId} (h : Blk w b cs t) (hb : Below B w w') (hlt : b < B) : Blk w' b cs t := by
  unfold Blk at h ⊢; rw [hb.block b hlt, h]
theorem Blk.new (w : World) (cs : Array Value) (t : TypeId) : Blk (w.alloc (.cells cs t)) w.heap.size cs t := by
  unfold Blk; simp [World.alloc, -World.alloc_eq]
theorem Blk.alloc {w : World} {b : Nat} {cs : Array Value} {t : TypeId} (h : Blk w b cs t) (o : Obj) : Blk (w.alloc o) b cs t := by
  have := h.lt
  unfold Blk at h ⊢; simp [World.alloc, -World.alloc_eq, Array.getElem?_push, h]; omega
theorem Blk.drewN {w : World} {b : Nat} {cs : Array Value} {t : TypeId} (h : Blk w b cs t) (n : Nat) : Blk (w.drewN n) b cs t := h
theorem Blk.drew {w : World} {b : Nat} {cs : Array Value} {t : TypeId} (h : Blk w b cs t) : Blk w.drew b cs t := h
theorem below_drewN {B : Nat} {w W : World} (h : Below B w W) (n : Nat) : Below B w (W.drewN n) := ⟨h.os, h.tape, h.output, h.size, h.block⟩
theorem below_drew {B : Nat} {w W : World} (h : Below B w W) : Below B w W.drew := ⟨h.os, h.tape, h.output, h.size, h.block⟩
theorem below_of_drew {B : Nat} {w W : World} (h : Below B w W.drew) : Below B w W := ⟨h.os, h.tape, h.output, h.size, h.block⟩
theorem below_then {B : Nat} {w w1 w2 : World} (h : Below B w w1) (hB : B ≤ w1.heap.size) (k : Below w1.heap.size w1 w2) : Below B w w2 :=
  h.trans ⟨k.os, k.tape, k.output, k.size, fun i hi => k.block i (Nat.lt_of_lt_of_le hi hB)⟩
theorem below_next {w w1 w2 : World} (h : Below w.heap.size w w1) (k : Below w1.heap.size w1 w2) : Below w.heap.size w w2 := below_then h h.size k
theorem bytes_below {B : Nat} {w W : World} (h : Below B w W) (hB : B ≤ W.heap.size) (e : TypeId) (s : ByteArray) : Below B w (Lib.bytesWorld W e s) :=
  h.trans ⟨rfl, rfl, rfl, by rw [Lib.bytesWorld_size]; omega, fun i hi => Lib.bytesWorld_at_old W e s i (by omega)⟩

/-- The bytes of a string, one behind the other, in a block. -/
def Byts (w : World) (b : Nat) (s : ByteArray) : Prop := ∀ j, j < s.size → w.cell? ⟨b, j, none⟩ = some (.int .u8 ((s.data.toList.getD j 0).toNat : Int))
theorem Byts.new (W : World) (s : ByteArray) (e : TypeId) : Byts (Lib.bytesWorld W e s) W.heap.size s := fun j hj => Lib.bytesWorld_cell W e s j hj
theorem Byts.below {w w' : World} {b B : Nat} {s : ByteArray} (h : Byts w b s) (hb : Below B w w') (hlt : b < B) : Byts w' b s := fun j hj => by
  rw [hb.cell (p := ⟨b, j, none⟩) hlt]; exact h j hj
theorem Byts.set_ne {w : World} {b : Nat} {s : ByteArray} (h : Byts w b s) {a : Addr} (hb : a.block ≠ b) (v : Value) : Byts (w.setCell a v) b s := fun j hj => by
  rw [Go.World.cell?_setCell_other (w := w) (a := a) (v := v) (b := ⟨b, j, none⟩) (by intro e; exact hb (by rw [e]))]; exact h j hj
theorem u8_is {c : UInt8} {n : Nat} (h : (((c.toNat : Nat) : Int) == (n : Int)) = true) : c.toNat = n := by
  have h' : ((c.toNat : Nat) : Int) = (n : Int) := by simpa using h
  exact Int.ofNat_inj.1 h'
theorem u8_isnt {c : UInt8} {n : Nat} (h : (((c.toNat : Nat) : Int) == (n : Int)) = false) : c.toNat ≠ n := by
  intro e; rw [e] at h; simp at h
theorem take_snoc (l : List UInt8) (k : Nat) (h : k < l.length) : l.take (k + 1) = l.take k ++ [l.getD k 0] := by
  rw [List.take_succ_eq_append_getElem h, List.getD_eq_getElem?_getD, List.getElem?_eq_getElem h]; rfl

/-! ### a result that lies in a block -/
theorem run_loadVar_blk {P : Program} {w : World} {b : Nat} {cs : Array Value} {t ty : TypeId} (h : Blk w b cs t) (hagg : ∀ w, (isAgg ty).run P w = .ok true w) (hsz : ∀ w, (sizeOf ty).run P w = .ok cs.size w) :
    (loadVar ty ⟨b, 0, none⟩).run P w = .ok (.agg cs) w := by
  have hc := run_loadCells_list (P := P) (w := w) ⟨b, 0, none⟩ cs.toList (fun j v hj => by
    have e : (⟨b, 0, none⟩ : Addr).add j = ⟨b, j, none⟩ := by unfold Addr.add; split <;> simp_all
    rw [e, h.cell j]; simpa using hj)
  have hc' : (loadCells ⟨b, 0, none⟩ cs.size).run P w = .ok cs w := by simpa using hc
  simp [loadVar, Sem.run_bind, hagg, hsz, hc', Result.andThen]
theorem results_cell1 {fn : Func} {p : Tmp} {ty : TypeId} (h : fn.results = #[.cell p ty]) (tmps : Array Value) (P : Program) (w : World) :
    (results fn tmps).run P w = ((asAddr (tmps.getD p undef)).run P w).andThen fun a w₁ => (loadVar ty a).run P w₁ := by
  simp only [results, h]
  simp [Sem.run_bind, Result.andThen]
theorem results_cell2 {fn : Func} {p u : Tmp} {ty : TypeId} (h : fn.results = #[.cell p ty, .tmp u]) (tmps : Array Value) (P : Program) (w : World) :
    (results fn tmps).run P w =
      ((asAddr (tmps.getD p undef)).run P w).andThen fun a w₁ => ((loadVar ty a).run P w₁).andThen fun v w₂ => .ok (.tuple #[v, tmps.getD u undef]) w₂ := by
  simp only [results, h]
  simp [Sem.run_bind, Result.andThen]
theorem bodyPost_agg {P : Program} {fn : Func} {R : Ending → World → Prop} {a : Act} {w : World} {p : Tmp} {ty t : TypeId} {b : Nat} {cs : Array Value} (hres : fn.results = #[.cell p ty])
    (hp : a.tmps.getD p undef = .pointer (some ⟨b, 0, none⟩)) (h : Blk w b cs t) (hagg : ∀ w, (isAgg ty).run P w = .ok true w) (hsz : ∀ w, (sizeOf ty).run P w = .ok cs.size w) (hd : a.defers = []) (hR : R (.returned (.agg cs)) w) : bodyPost P fn R .ret a w := by
  refine bodyPost_ret (v := .agg cs) ?_ hd hR
  rw [results_cell1 hres, hp]
  exact run_loadVar_blk h hagg hsz
theorem bodyPost_agg2 {P : Program} {fn : Func} {R : Ending → World → Prop} {a : Act} {w : World} {p u : Tmp} {ty t : TypeId} {b : Nat} {cs : Array Value} (hres : fn.results = #[.cell p ty, .tmp u])
    (hp : a.tmps.getD p undef = .pointer (some ⟨b, 0, none⟩)) (h : Blk w b cs t) (hagg : ∀ w, (isAgg ty).run P w = .ok true w) (hsz : ∀ w, (sizeOf ty).run P w = .ok cs.size w) (hd : a.defers = []) (hR : R (.returned (.tuple #[.agg cs, a.tmps.getD u undef])) w) : bodyPost P fn R .ret a w := by
  refine bodyPost_ret (v := .tuple #[.agg cs, a.tmps.getD u undef]) ?_ hd hR
  rw [results_cell2 hres, hp]
  show (((loadVar ty ⟨b, 0, none⟩).run P w).andThen _) = _
  rw [run_loadVar_blk h hagg hsz]
  rfl

/-! ### a region that draws its order and whose calls make memory: one walk in the text's order -/
/-- A world that has grown out of w: what lay in w is as it was. -/
structure GW (w : World) where
  W : World
  h : Below w.heap.size w W
instance (w : World) : Nonempty (GW w) := ⟨⟨w, Below.refl _ _⟩⟩
theorem gw_cell {w : World} {p : Addr} {v : Value} (hc : w.cell? p = some v) (g : GW w) : g.W.cell? p = some v :=
  (g.h.cell (World.block_lt_of_cell? w p hc)).trans hc
theorem gw_call {P : Program} {f : FuncId} {args : Array Value} {w : World} {g : GW w} {v : Value}
    (h : Calls P f args g.W fun e w' => e = .returned v ∧ Below g.W.heap.size g.W w') : Calls P f args g.W fun e w'' => e = .returned v ∧ ∃ g' : GW w, w'' = g'.W :=
  h.mono fun _ w' ⟨he, hb⟩ => ⟨he, ⟨w', below_next g.h hb⟩, rfl⟩
theorem gw_call_drew {P : Program} {f : FuncId} {args : Array Value} {w : World} {g : GW w} {v : Value}
    (h : Calls P f args g.W fun e w' => e = .returned v ∧ ∃ n, w' = g.W.drewN n) : Calls P f args g.W fun e w'' => e = .returned v ∧ ∃ g' : GW w, w'' = g'.W :=
  gw_call (h.mono fun _ _ ⟨he, n, hn⟩ => ⟨he, by rw [hn]; exact below_drewN (Below.refl _ _) n⟩)
theorem gw_call_same {P : Program} {f : FuncId} {args : Array Value} {w : World} {g : GW w} {v : Value}
    (h : Calls P f args g.W fun e w' => e = .returned v ∧ g.W = w') : Calls P f args g.W fun e w'' => e = .returned v ∧ ∃ g' : GW w, w'' = g'.W :=
  gw_call (h.mono fun _ _ ⟨he, hn⟩ => ⟨he, by rw [← hn]; exact Below.refl _ _⟩)
theorem wp_region_gw_lit {P : Program} {id : Nat} {Q : Exit → Act → World → Prop} {a : Act} {w : World} {l : List Oper} (hm : P.follows .mixedOrders = true) (hB : Region.lexB .any l.toArray = true)
    (h : wpQuiet P l.toArray (fun w' => ∃ g : GW w, w' = g.W) (fun a' => ∀ w', (∃ g : GW w, w' = g.W) → Q .normal a' w') l a) : (Code.region id l.toArray true).wp P Q a w :=
  wp_region_quiet (C := fun w' => ∃ g : GW w, w' = g.W) hm hB ⟨⟨{ w with drawn := w.drawn + 1 }, ⟨rfl, rfl, rfl, Nat.le_refl _, fun _ _ => rfl⟩⟩, rfl⟩ (by simpa using h)
end Go.Proofs.YtpbffmkdchiajaaDoor

/-
  The data of package ir in memory: an instruction, a function, a module; what stays under 'Below'.
-/
import Derived.Test.YtpbffmkdchiajaaDoorIsa6
namespace Go.Proofs.YtpbffmkdchiajaaDoor
open Go.RowKit
/-- A row of ints that a slice shows. -/
def IntsOk (w : World) (ad : Option Addr) (zs : List Int) : Prop :=
  zs.length ≤ 9223372036854775807 ∧ (0 < zs.length → ∃ b off, ad = some ⟨b, off, none⟩ ∧ b < w.heap.size ∧ ∀ j, j < zs.length → w.cell? ⟨b, off + j, none⟩ = some (.int .i64 (zs.getD j 0)))
theorem IntsOk.below {w w' : World} {B : Nat} {ad : Option Addr} {zs : List Int} (h : IntsOk w ad zs) (hb : Below B w w') (hB : w.heap.size ≤ B) : IntsOk w' ad zs :=
  ⟨h.1, fun h0 => by
    obtain ⟨b, off, e, hlt, hc⟩ := h.2 h0
    exact ⟨b, off, e, Nat.lt_of_lt_of_le hlt hb.size, fun j hj => (hb.cell (p := ⟨b, off + j, none⟩) (Nat.lt_of_lt_of_le hlt hB)).trans (hc j hj)⟩⟩
/-- A row of structs of k cells that a slice shows. -/
def RowsOk (w : World) (ad : Option Addr) (k : Nat) (rows : List (List Value)) : Prop :=
  rows.length ≤ 9223372036854775807 ∧ (0 < rows.length → ∃ b off, ad = some ⟨b, off, none⟩ ∧ b < w.heap.size ∧ ∀ j, j < rows.length → ∀ i v, (rows.getD j [])[i]? = some v → w.cell? ⟨b, off + j * k + i, none⟩ = some v)
theorem RowsOk.below {w w' : World} {B : Nat} {ad : Option Addr} {k : Nat} {rows : List (List Value)} (h : RowsOk w ad k rows) (hb : Below B w w') (hB : w.heap.size ≤ B) : RowsOk w' ad k rows :=
  ⟨h.1, fun h0 => by
    obtain ⟨b, off, e, hlt, hc⟩ := h.2 h0
    exact ⟨b, off, e, Nat.lt_of_lt_of_le hlt hb.size, fun j hj i v hv => (hb.cell (p := ⟨b, off + j * k + i, none⟩) (Nat.lt_of_lt_of_le hlt hB)).trans (hc j hj i v hv)⟩⟩
structure InsD where
  op : Int
  d : Int
  a : Int
  b : Int
  imm : Int
  ad : Option Addr
  cap : Nat
  args : List Int
  what : Int
  vol : Bool
  fin : Bool
def InsD.enc (x : InsD) : List Value := [.int .i64 x.op, .int .i64 x.d, .int .i64 x.a, .int .i64 x.b, .int .i64 x.imm, .slice x.ad x.args.length x.cap, .int .i64 x.what, .bool x.vol, .bool x.fin]
instance : Inhabited InsD := ⟨⟨0, 0, 0, 0, 0, none, 0, [], 0, false, false⟩⟩
structure FuncD where
  name : ByteArray
  params : Int
  regs : Int
  ad : Option Addr
  cap : Nat
  code : List InsD
instance : Inhabited FuncD := ⟨⟨⟨#[]⟩, 0, 0, none, 0, []⟩⟩
def FuncD.enc (f : FuncD) : List Value := [.string f.name, .int .i64 f.params, .int .i64 f.regs, .slice f.ad f.code.length f.cap]
structure FuncD.Ok (f : FuncD) (w : World) : Prop where
  rows : RowsOk w f.ad 9 (f.code.map InsD.enc)
  args : ∀ x ∈ f.code, IntsOk w x.ad x.args
theorem FuncD.Ok.below {f : FuncD} {w w' : World} {B : Nat} (h : f.Ok w) (hb : Below B w w') (hB : w.heap.size ≤ B) : f.Ok w' :=
  ⟨h.rows.below hb hB, fun x hx => (h.args x hx).below hb hB⟩
/-- The nine cells of an instruction at a place. -/
structure InsAt (w : World) (b o : Nat) (x : InsD) : Prop where
  c0 : w.cell? ⟨b, o, none⟩ = some (.int .i64 x.op)
  c1 : w.cell? ⟨b, o + 1, none⟩ = some (.int .i64 x.d)
  c2 : w.cell? ⟨b, o + 2, none⟩ = some (.int .i64 x.a)
  c3 : w.cell? ⟨b, o + 3, none⟩ = some (.int .i64 x.b)
  c4 : w.cell? ⟨b, o + 4, none⟩ = some (.int .i64 x.imm)
  c5 : w.cell? ⟨b, o + 5, none⟩ = some (.slice x.ad x.args.length x.cap)
  c6 : w.cell? ⟨b, o + 6, none⟩ = some (.int .i64 x.what)
  c7 : w.cell? ⟨b, o + 7, none⟩ = some (.bool x.vol)
  c8 : w.cell? ⟨b, o + 8, none⟩ = some (.bool x.fin)
theorem FuncD.Ok.at {f : FuncD} {w : World} (h : f.Ok w) (h0 : 0 < f.code.length) : ∃ b off, f.ad = some ⟨b, off, none⟩ ∧ b < w.heap.size ∧ ∀ k x, f.code[k]? = some x → InsAt w b (off + k * 9) x := by
  obtain ⟨b, off, e, hlt, hc⟩ := h.rows.2 (by simpa using h0)
  refine ⟨b, off, e, hlt, fun k x hk => ?_⟩
  have hk' : k < f.code.length := (List.getElem?_eq_some_iff.1 hk).1
  have key : ∀ i v, x.enc[i]? = some v → w.cell? ⟨b, off + k * 9 + i, none⟩ = some v := fun i v hv => hc k (by simpa using hk') i v (by simpa [List.getD, hk] using hv)
  exact ⟨key 0 _ rfl, key 1 _ rfl, key 2 _ rfl, key 3 _ rfl, key 4 _ rfl, key 5 _ rfl, key 6 _ rfl, key 7 _ rfl, key 8 _ rfl⟩
theorem InsAt.below {w w' : World} {B b o : Nat} {x : InsD} (h : InsAt w b o x) (hb : Below B w w') (hB : b < B) : InsAt w' b o x :=
  ⟨(hb.cell (p := ⟨b, o, none⟩) hB).trans h.c0, (hb.cell (p := ⟨b, o + 1, none⟩) hB).trans h.c1, (hb.cell (p := ⟨b, o + 2, none⟩) hB).trans h.c2, (hb.cell (p := ⟨b, o + 3, none⟩) hB).trans h.c3, (hb.cell (p := ⟨b, o + 4, none⟩) hB).trans h.c4, (hb.cell (p := ⟨b, o + 5, none⟩) hB).trans h.c5, (hb.cell (p := ⟨b, o + 6, none⟩) hB).trans h.c6, (hb.cell (p := ⟨b, o + 7, none⟩) hB).trans h.c7, (hb.cell (p := ⟨b, o + 8, none⟩) hB).trans h.c8⟩
end Go.Proofs.YtpbffmkdchiajaaDoor

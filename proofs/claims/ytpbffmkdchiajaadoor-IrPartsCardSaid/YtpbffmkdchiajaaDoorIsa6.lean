/-
  The walks of package isa, sixth part: condition; the library's texts by their contracts; a slice that grows by one.
-/
import Derived.Test.YtpbffmkdchiajaaDoorIsa2
import Derived.Test.YtpbffmkdchiajaaDoorShelf
import Derived.Maps.AppendAt
import Derived.WalkSmall
namespace Go.Proofs.YtpbffmkdchiajaaDoor
open Go.RowKit Go.Lib Go.Sort
/-- The library's tables that the texts use. -/
structure Tabs (w : World) : Prop where
  nb : 12 ≤ w.heap.size
  pow : Lib.TabIs Tryd.prog w "internal/strconv.uint64pow10" .u64 Lib.pow10Tab
  spc : Lib.TabIs Tryd.prog w "strings.asciiSpace" .u8 Lib.asciiSpaceTab
theorem Tabs.below {w w' : World} {B : Nat} (h : Tabs w) (hb : Below B w w') (hB : 12 ≤ B) : Tabs w' where
  nb := Nat.le_trans h.nb hb.size
  pow := var?_below (g := 5) hb (by kernel_rfl) (by omega) h.pow
  spc := var?_below (g := 2) hb (by kernel_rfl) (by omega) h.spc
theorem below_growN (w : World) (k : Nat) (os : Array Obj) : Below w.heap.size w (grow (w.drewN k) os) :=
  ⟨rfl, rfl, rfl, by simp [grow], fun i hi => by simp [grow, Array.getElem?_append, hi]⟩
def itoaB (n : Int) : ByteArray := ⟨(Lib.itoa n).toArray⟩
theorem itoa_any (n : Int) (h0 : -9223372036854775808 ≤ n) (h1 : n ≤ 9223372036854775807) (w : World) (H : Tabs w) :
    Calls Tryd.prog 56 #[.int .i64 n] w fun e w' => e = .returned (.string (itoaB n)) ∧ Below w.heap.size w w' :=
  (Tryd.strconv_Itoa n h0 h1 w H.pow).mono fun _ _ ⟨he, k, os, hw⟩ => ⟨he, by rw [hw]; exact below_growN w k os⟩
theorem trim_any (s : ByteArray) (w : World) (hs : s.size ≤ 9223372036854775807) (ha : ∀ (j : Nat) b, s.data.toList[j]? = some b → b.toNat < 128) (H : Tabs w) :
    Calls Tryd.prog 57 #[.string s] w fun e w' => e = .returned (.string ⟨(Lib.trimSpace s.data.toList).toArray⟩) ∧ Below w.heap.size w w' :=
  (Tryd.strings_TrimSpace s w hs ha H.spc).mono fun _ _ ⟨he, hw⟩ => ⟨he, by rw [hw]; exact bytes_below (Below.refl _ _) (Nat.le_refl _) 5 s⟩
/-- 'condition': the branch's name. -/
def condB (d a : Int) : ByteArray :=
  if d = 12 then (if a = 0 then ⟨#[98, 108, 116]⟩ else if a = 1 then ⟨#[98, 103, 116]⟩ else ⟨#[98, 101, 113]⟩)
  else (if a = 0 then ⟨#[98, 103, 101]⟩ else if a = 1 then ⟨#[98, 108, 101]⟩ else ⟨#[98, 110, 101]⟩)
set_option maxHeartbeats 1000000 in
theorem cond_any (op d a b imm : Int) (w : World) (a0 : 0 ≤ a) (a1 : a ≤ 2) :
    Calls Tryd.prog 55 #[.agg #[.int .i64 op, .int .i64 d, .int .i64 a, .int .i64 b, .int .i64 imm]] w fun e w' => e = .returned (.string (condB d a)) ∧ Below w.heap.size w w' := by
  have hb : ∀ o1 o2 o3, Below w.heap.size w (((w.alloc o1).alloc o2).alloc o3) := fun o1 o2 o3 => (((Below.refl _ _).alloc (by simp) _).alloc (by simp) _).alloc (by simp; omega) _
  obtain rfl | rfl | rfl : a = 0 ∨ a = 1 ∨ a = 2 := by omega
  all_goals
    cases hd : (d == 12)
    all_goals
      go_enter Tryd.func55, Tryd.ntmps55
      go_wp2
      go_ret
      refine ⟨?_, hb _ _ _⟩
      unfold condB
      first
        | (rw [if_pos (by simpa using hd)]; rfl)
        | (rw [if_neg (by simpa using hd)]; rfl)
section
variable {P : Program} {ops : Array Oper} {rest : List Oper} {o : Oper} {act : Act} {Q : Exit → Act → World → Prop}
/-- 'append(s, x)', x one value of one cell: behind it the row holds one more; what was there before the row began is as it was. -/
theorem app_one {w0 W : World} (base : Nat) (hgd : o.guard = none) (s x : Operand) (t e : TypeId) (z : Value) (bytes : Nat)
    (ho : o.op = .call { callee := .builtin .append, args := #[s, x], argTypes := #[t, t] })
    (ht : P.underlying t = some (.slice e)) (hinfo : (P.info? e).map (fun i => (i.zero, i.size, i.bytes)) = some (some z, 1, bytes)) (hz : z.cells.size = 1) (hb0 : 0 < bytes)
    (v : Value) (xs : List Value) (y : Value) (hs : act.eval s = v) (hx : act.eval x = .slice (some ⟨W.heap.size, 0, none⟩) 1 1) (h1 : y.oneCell' = true)
    (HO : W.ownsRow base e 1 v xs.length xs) (HB : Below base w0 W) (hbase : base ≤ W.heap.size) (hl : (xs.length + 1) * bytes ≤ 140737488355328)
    (h : ∀ v1 w1, w1.ownsRow base e 1 v1 (xs ++ [y]).length (xs ++ [y]) → Below base w0 w1 → wpList P ops Q rest (act.put o.dst v1) w1) :
    wpList P ops Q (o :: rest) act (W.alloc (.cells #[y] e)) := by
  obtain ⟨i0, hi, hzz⟩ := Option.map_eq_some_iff.1 hinfo
  simp only [Prod.mk.injEq] at hzz
  obtain ⟨hz0, hz1, hz2⟩ := hzz
  have hlen : xs.length + 1 ≤ 140737488355328 := Nat.le_trans (Nat.le_mul_of_pos_right _ hb0) hl
  refine wpList_append_own_at (w := W.alloc (.cells #[y] e)) hgd s x t ho base e i0 z 1 bytes ht hi hz0 hz1 hz2 hz (by omega) v xs.length xs hs (HO.alloc _) ⟨W.heap.size, 0, none⟩ 1 1 [y] hx rfl
    (cell_one_new _ _ _) (by simpa using h1) (by simp only [maxLen]; omega) hl (by simp; omega) ?_
  intro v1 w1 hown hg _ _
  exact h v1 w1 (by simpa using hown) ((HB.alloc hbase _).grown hg (by simp; omega) (fun k hk => (HO.lt k hk).1))
end
end Go.Proofs.YtpbffmkdchiajaaDoor

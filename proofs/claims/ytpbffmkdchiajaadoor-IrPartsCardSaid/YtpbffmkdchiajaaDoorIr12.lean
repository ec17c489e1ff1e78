/-
  The walks of package ir, twelfth part: Line at the one instruction that the law asks; alive.
-/
import Derived.Test.YtpbffmkdchiajaaDoorIr0
import Derived.Test.YtpbffmkdchiajaaDoorIsa7
namespace Go.Proofs.YtpbffmkdchiajaaDoor
open Go.RowKit Go.Shelf Go.Lib
/-- What the law of package ir asks of the tables. -/
structure IrW (w : World) : Prop where
  nb : 12 ≤ w.heap.size
  pow : Lib.TabIs Tryd.prog w "internal/strconv.uint64pow10" .u64 Lib.pow10Tab
  nm : w.cell? ⟨3, 1, none⟩ = some (.string ⟨#[99, 111, 110, 115, 116]⟩)
theorem IrW.below {w w' : World} {B : Nat} (h : IrW w) (hb : Below B w w') (hB : 12 ≤ B) : IrW w' where
  nb := Nat.le_trans h.nb hb.size
  pow := var?_below (g := 5) hb (by kernel_rfl) (by omega) h.pow
  nm := (hb.cell (p := ⟨3, 1, none⟩) (show 3 < B by omega)).trans h.nm
theorem itoaP_any (n : Int) (h0 : -9223372036854775808 ≤ n) (h1 : n ≤ 9223372036854775807) (w : World) (H : IrW w) :
    Calls Tryd.prog 56 #[.int .i64 n] w fun e w' => e = .returned (.string (itoaB n)) ∧ Below w.heap.size w w' :=
  (Tryd.strconv_Itoa n h0 h1 w H.pow).mono fun _ _ ⟨he, k, os, hw⟩ => ⟨he, by rw [hw]; exact below_growN w k os⟩
theorem own_ne {w : World} {base n : Nat} {e : TypeId} {size : Nat} {v : Value} {xs : List Value} (h : w.ownsRow base e size v n xs) {b : Nat} {cs : Array Value} {t : TypeId} (hb : Blk w b cs t) (ht : t ≠ e) : some b ≠ v.ownBlock := by
  rcases h.2 with ⟨rfl, _⟩ | ⟨g, cap, cur, rfl, _, hg, _⟩
  · simp [Value.ownBlock]
  · intro he
    have he' : b = g := by simpa [Value.ownBlock] using he
    subst he'
    unfold Blk at hb
    rw [hb] at hg
    injection hg with hg
    injection hg with _ h2
    exact ht h2
section
variable {P : Program} {ops : Array Oper} {rest : List Oper} {o : Oper} {act : Act} {Q : Exit → Act → World → Prop}
/-- The same as 'app_one', and blocks of other kinds stay. -/
theorem app_oneB {w0 W : World} (base : Nat) (hgd : o.guard = none) (s x : Operand) (t e : TypeId) (z : Value) (bytes : Nat)
    (ho : o.op = .call { callee := .builtin .append, args := #[s, x], argTypes := #[t, t] })
    (ht : P.underlying t = some (.slice e)) (hinfo : (P.info? e).map (fun i => (i.zero, i.size, i.bytes)) = some (some z, 1, bytes)) (hz : z.cells.size = 1) (hb0 : 0 < bytes)
    (v : Value) (xs : List Value) (y : Value) (hs : act.eval s = v) (hx : act.eval x = .slice (some ⟨W.heap.size, 0, none⟩) 1 1) (h1 : y.oneCell' = true)
    (HO : W.ownsRow base e 1 v xs.length xs) (HB : Below base w0 W) (hbase : base ≤ W.heap.size) (hl : (xs.length + 1) * bytes ≤ 140737488355328)
    (h : ∀ v1 w1, w1.ownsRow base e 1 v1 (xs ++ [y]).length (xs ++ [y]) → Below base w0 w1 → (∀ b cs t', t' ≠ e → Blk W b cs t' → Blk w1 b cs t') → wpList P ops Q rest (act.put o.dst v1) w1) :
    wpList P ops Q (o :: rest) act (W.alloc (.cells #[y] e)) := by
  obtain ⟨i0, hi, hzz⟩ := Option.map_eq_some_iff.1 hinfo
  simp only [Prod.mk.injEq] at hzz
  obtain ⟨hz0, hz1, hz2⟩ := hzz
  have hlen : xs.length + 1 ≤ 140737488355328 := Nat.le_trans (Nat.le_mul_of_pos_right _ hb0) hl
  refine wpList_append_own_at (w := W.alloc (.cells #[y] e)) hgd s x t ho base e i0 z 1 bytes ht hi hz0 hz1 hz2 hz (by omega) v xs.length xs hs (HO.alloc _) ⟨W.heap.size, 0, none⟩ 1 1 [y] hx rfl
    (cell_one_new _ _ _) (by simpa using h1) (by simp only [maxLen]; omega) hl (by simp; omega) ?_
  intro v1 w1 hown hg _ _
  refine h v1 w1 (by simpa using hown) ((HB.alloc hbase _).grown hg (by simp; omega) (fun k hk => (HO.lt k hk).1)) (fun b cs t' hne hb => ?_)
  have hb1 := hb.alloc (.cells #[y] e)
  exact (hg.block b hb1.lt (own_ne (HO.alloc _) hb1 hne)).trans hb1
end
theorem itoa3 : itoaB 3 = ⟨#[51]⟩ := by rw [itoaB, show Lib.itoa 3 = [51] by decide +kernel]
theorem itoa7 : itoaB 7 = ⟨#[55]⟩ := by rw [itoaB, show Lib.itoa 7 = [55] by decide +kernel]
theorem joined : (Lib.join [[99, 111, 110, 115, 116], [118, 51], [55]] [32] : List UInt8) = [99, 111, 110, 115, 116, 32, 118, 51, 32, 55] := by decide +kernel
theorem info9' : (Tryd.prog.info? 9).map (fun i => (i.zero, i.size, i.bytes)) = some (some (.string ⟨#[]⟩), 1, 16) := by kernel_rfl
def lineTexts (k : Nat) : List ByteArray := if k = 0 then [⟨#[99, 111, 110, 115, 116]⟩] else [⟨#[99, 111, 110, 115, 116]⟩, ⟨#[118, 51]⟩]
structure LineRel (H : Nat) (w : World) (k : Nat) (v : Value) (wr : World) : Prop where
  below : Below H w wr
  tab : IrW wr
  row : Blk wr (H + 1 + 1) #[.int .i64 3, .int .i64 (-1), .int .i64 (-1)] 3
  ins : Blk wr H #[.int .i64 1, .int .i64 3, .int .i64 (-1), .int .i64 (-1), .int .i64 7, .slice none 0 0, .int .i64 0, .bool false, .bool false] 71
  big : H + 1 ≤ wr.heap.size
  own : wr.ownsRow H 9 1 v ((lineTexts k).map Value.string).length ((lineTexts k).map Value.string)
set_option maxRecDepth 100000 in
set_option maxHeartbeats 4000000 in
theorem line_alive (w : World) (H : IrW w) :
    Calls Tryd.prog 90 #[.agg #[.int .i64 1, .int .i64 3, .int .i64 (-1), .int .i64 (-1), .int .i64 7, .slice none 0 0, .int .i64 0, .bool false, .bool false]] w fun e w' => e = .returned (.string ⟨#[99, 111, 110, 115, 116, 32, 118, 51, 32, 55]⟩) ∧ Below w.heap.size w w' := by
  have HN := H.nm
  have hnb := H.nb
  have h3 : 3 < w.heap.size := by omega
  go_enter Tryd.func90, Tryd.ntmps90
  go_wp2
  have B0 : Blk (((w.alloc (.cells #[.int .i64 1, .int .i64 3, .int .i64 (-1), .int .i64 (-1), .int .i64 7, .slice none 0 0, .int .i64 0, .bool false, .bool false] 71)).alloc (.cells #[.string ⟨#[99, 111, 110, 115, 116]⟩] 9)).alloc (.cells #[.int .i64 3, .int .i64 (-1), .int .i64 (-1)] 3)) w.heap.size #[.int .i64 1, .int .i64 3, .int .i64 (-1), .int .i64 (-1), .int .i64 7, .slice none 0 0, .int .i64 0, .bool false, .bool false] 71 := ((Blk.new w _ _).alloc _).alloc _
  have B2 : Blk (((w.alloc (.cells #[.int .i64 1, .int .i64 3, .int .i64 (-1), .int .i64 (-1), .int .i64 7, .slice none 0 0, .int .i64 0, .bool false, .bool false] 71)).alloc (.cells #[.string ⟨#[99, 111, 110, 115, 116]⟩] 9)).alloc (.cells #[.int .i64 3, .int .i64 (-1), .int .i64 (-1)] 3)) (w.heap.size + 1 + 1) #[.int .i64 3, .int .i64 (-1), .int .i64 (-1)] 3 := by
    have h := Blk.new ((w.alloc (.cells #[.int .i64 1, .int .i64 3, .int .i64 (-1), .int .i64 (-1), .int .i64 7, .slice none 0 0, .int .i64 0, .bool false, .bool false] 71)).alloc (.cells #[.string ⟨#[99, 111, 110, 115, 116]⟩] 9)) #[.int .i64 3, .int .i64 (-1), .int .i64 (-1)] 3
    simpa using h
  have B1 : Blk (((w.alloc (.cells #[.int .i64 1, .int .i64 3, .int .i64 (-1), .int .i64 (-1), .int .i64 7, .slice none 0 0, .int .i64 0, .bool false, .bool false] 71)).alloc (.cells #[.string ⟨#[99, 111, 110, 115, 116]⟩] 9)).alloc (.cells #[.int .i64 3, .int .i64 (-1), .int .i64 (-1)] 3)) (w.heap.size + 1) #[.string ⟨#[99, 111, 110, 115, 116]⟩] 9 := by
    have h := (Blk.new (w.alloc (.cells #[.int .i64 1, .int .i64 3, .int .i64 (-1), .int .i64 (-1), .int .i64 7, .slice none 0 0, .int .i64 0, .bool false, .bool false] 71)) #[.string ⟨#[99, 111, 110, 115, 116]⟩] 9).alloc (.cells #[.int .i64 3, .int .i64 (-1), .int .i64 (-1)] 3)
    simpa using h
  have BB : Below w.heap.size w (((w.alloc (.cells #[.int .i64 1, .int .i64 3, .int .i64 (-1), .int .i64 (-1), .int .i64 7, .slice none 0 0, .int .i64 0, .bool false, .bool false] 71)).alloc (.cells #[.string ⟨#[99, 111, 110, 115, 116]⟩] 9)).alloc (.cells #[.int .i64 3, .int .i64 (-1), .int .i64 (-1)] 3)) := (((Below.refl _ w).alloc (Nat.le_refl _) _).alloc (by simp) _).alloc (by simp; omega) _
  have BT := H.below BB hnb
  have hbig : w.heap.size + 1 ≤ (((w.alloc (.cells #[.int .i64 1, .int .i64 3, .int .i64 (-1), .int .i64 (-1), .int .i64 7, .slice none 0 0, .int .i64 0, .bool false, .bool false] 71)).alloc (.cells #[.string ⟨#[99, 111, 110, 115, 116]⟩] 9)).alloc (.cells #[.int .i64 3, .int .i64 (-1), .int .i64 (-1)] 3)).heap.size := by simp
  generalize ((w.alloc (.cells #[.int .i64 1, .int .i64 3, .int .i64 (-1), .int .i64 (-1), .int .i64 7, .slice none 0 0, .int .i64 0, .bool false, .bool false] 71)).alloc (.cells #[.string ⟨#[99, 111, 110, 115, 116]⟩] 9)).alloc (.cells #[.int .i64 3, .int .i64 (-1), .int .i64 (-1)] 3) = W4 at *
  have hrel0 : LineRel w.heap.size w 0 (.slice (some ⟨w.heap.size + 1, 0, none⟩) 1 1) W4 := ⟨BB, BT, B2, B0, hbig, rfl, .inr ⟨w.heap.size + 1, 1, _, rfl, Nat.le_succ _, B1, Nat.le_refl _, by decide, rfl, rfl⟩⟩
  have hrel0 := Lib.hid hrel0
  clear B0 B1 B2 BB BT HN hbig
  generalize hBq : w.heap.size = B at *
  have hBq := Lib.hid hBq
  go_loopw [3, 32] (fun v i wr => ∃ k : Nat, k ≤ 3 ∧ i = .int .i64 k ∧ LineRel B w k v wr) (fun _ i _ => 3 - (RowKit.intOf i).toNat)
  case atStart => exact ⟨0, Nat.zero_le _, rfl, hrel0.out⟩
  case round =>
    obtain ⟨k, hk, rfl, hr⟩ := hrel
    have r0 := hr.row.cell 0
    have r1 := hr.row.cell 1
    have r2 := hr.row.cell 2
    simp at r0 r1 r2
    have hr := Lib.hid hr
    have hz3 : (itoaB 3).size ≤ 21 := itoaB_size 3 ⟨by omega, by omega⟩
    have p4 := hr.out.ins.cell 4
    simp at p4
    match k, hk with
    | 0, _ =>
      go_wp2_with (first | (go_at_call 56; refine (itoaP_any 3 (by omega) (by omega) _ hr.out.tab).mono ?_; rintro e w2 ⟨rfl, hb2⟩; have ho2 := Lib.hid (own_below hr.out.own hb2); have hB2 := Lib.hid (below_then hr.out.below (Nat.le_trans (Nat.le_succ _) hr.out.big) hb2); have hz2 : B ≤ w2.heap.size := by have := hb2.size; have := hr.out.big; omega) | (at_builtin; go_loud (refine app_oneB (w0 := w) B rfl (.tmp 38) (.tmp 42) 97 9 (.string ⟨#[]⟩) 16 rfl Tryd.underlying97 info9' rfl (by decide) _ _ (.string _) rfl rfl rfl ho2.out hB2.out ?_ ?_ ?_; (exact hz2); (simp [lineTexts]); intro v1 w1 hown1 hbel1 hblk1)))
      have hrow := hblk1 _ _ _ (by decide) (hr.out.row.below hb2 hr.out.row.lt)
      refine ⟨⟨1, by omega, rfl, hbel1, H.below hbel1 hnb, hrow, hblk1 _ _ _ (by decide) (hr.out.ins.below hb2 hr.out.ins.lt), by have := hrow.lt; omega, ?_⟩, by simp [RowKit.intOf]⟩
      have e3 : (⟨#[118]⟩ ++ itoaB 3 : ByteArray) = ⟨#[118, 51]⟩ := by rw [itoa3]; rfl
      rw [e3] at hown1
      exact hown1
    | 1, _ =>
      go_wp2
      exact ⟨⟨2, by omega, rfl, hr.out.below, hr.out.tab, hr.out.row, hr.out.ins, hr.out.big, hr.out.own⟩, by simp [RowKit.intOf]⟩
    | 2, _ =>
      go_wp2
      exact ⟨⟨3, by omega, rfl, hr.out.below, hr.out.tab, hr.out.row, hr.out.ins, hr.out.big, hr.out.own⟩, by simp [RowKit.intOf]⟩
    | 3, _ =>
      go_wp2_with (first | (go_at_call 56; refine (itoaP_any 7 (by omega) (by omega) _ hr.out.tab).mono ?_; rintro e w2 ⟨rfl, hb2⟩; have ho2 := Lib.hid (own_below hr.out.own hb2); have hB2 := Lib.hid (below_then hr.out.below (Nat.le_trans (Nat.le_succ _) hr.out.big) hb2); have hz2 : B ≤ w2.heap.size := by have := hb2.size; have := hr.out.big; omega) | (at_builtin; refine app_oneB (w0 := w) B rfl (.tmp 45) (.tmp 49) 97 9 (.string ⟨#[]⟩) 16 rfl Tryd.underlying97 info9' rfl (by decide) _ _ (.string _) rfl rfl rfl ho2.out hB2.out ?_ ?_ ?_; (exact hz2); (simp [lineTexts]); intro v1 w1 hown1 hbel1 hblk1; have Hown1 := Lib.hid hown1; have Hbel1 := Lib.hid hbel1; clear hown1 hbel1 hblk1))
      have hown1 := Hown1.out
      rw [itoa7] at hown1
      obtain ⟨g, cap, rfl, hlt, hcap⟩ : ∃ g cap, v1 = .slice (some ⟨g, 0, none⟩) 3 cap ∧ g < w1.heap.size ∧ 3 ≤ cap := by
        rcases hown1.2 with ⟨_, h⟩ | ⟨g', cap', cur, h, _, hg, hn, _⟩
        · simp at h
        · exact ⟨g', cap', h, (Array.getElem?_eq_some_iff.1 hg).1, by simpa [lineTexts] using hn⟩
      have hj := Tryd.strings_Join g 0 cap [⟨#[99, 111, 110, 115, 116]⟩, ⟨#[118, 51]⟩, ⟨#[55]⟩] ⟨#[32]⟩ w1 (fun j x hx => by
          have hj3 : j < 3 := by have := (List.getElem?_eq_some_iff.1 hx).1; simpa using this
          rw [Nat.zero_add, World.ownsRow.cellAt (n := 3) hown1 j (by omega)]
          match j, hj3 with
          | 0, _ => simp at hx; subst hx; rfl
          | 1, _ => simp at hx; subst hx; rfl
          | 2, _ => simp at hx; subst hx; rfl) hlt (by simp) hcap (by simp; decide)
      have hj := Lib.hid hj
      go_wp2_with (go_at_call 58; refine hj.out.mono ?_; rintro e w5 ⟨rfl, hb5⟩; have hb5 := Lib.hid hb5)
      go_ret
      rw [hBq.out]
      exact ⟨congrArg Ending.returned (congrArg Value.string (by simp; rw [joined])), below_then Hbel1.out (by have := Hbel1.out.size; omega) hb5.out⟩
set_option maxHeartbeats 1000000 in
theorem alive08_any (w : World) (H : IrW w) :
    Calls Tryd.prog 35 #[] w fun e w' => e = .returned (.bool true) ∧ Below w.heap.size w w' := by
  go_enter Tryd.func35, Tryd.ntmps35
  go_wp2_with (go_at_call 90; refine (line_alive _ H).mono ?_; rintro e w1 ⟨rfl, hb1⟩; have hb1 := Lib.hid hb1)
  go_ret
  exact ⟨rfl, hb1.out⟩
end Go.Proofs.YtpbffmkdchiajaaDoor

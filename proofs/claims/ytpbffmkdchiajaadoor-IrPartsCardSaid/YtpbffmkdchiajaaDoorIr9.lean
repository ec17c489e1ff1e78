/-
  The walks of package ir, ninth part: Good of a function that has labels; Good of all.
-/
import Derived.Test.YtpbffmkdchiajaaDoorIr8
namespace Go.Proofs.YtpbffmkdchiajaaDoor
open Go.RowKit Go.Shelf Go.Lib
set_option maxRecDepth 100000 in
set_option maxHeartbeats 4000000 in
theorem irGood_cons (f : FuncD) (w : World) (H : f.Ok w) (hsz : f.code.length ≤ 100000) (hl : labels f ≠ []) :
    Calls Tryd.prog 38 #[.agg #[.string f.name, .int .i64 f.params, .int .i64 f.regs, .slice f.ad f.code.length f.cap]] w fun e w' => e = .returned (.bool (irGoodF f)) ∧ Below w.heap.size w w' := by
  have HB := Lib.hid (Blk.new w #[.string f.name, .int .i64 f.params, .int .i64 f.regs, .slice f.ad f.code.length f.cap] 68)
  have HW := Lib.hid ((Below.refl w.heap.size w).alloc (Nat.le_refl _) (.cells #[.string f.name, .int .i64 f.params, .int .i64 f.regs, .slice f.ad f.code.length f.cap] 68))
  have HH := Lib.hid (H.below HW.out (Nat.le_refl _))
  have hl0 : 0 < (labels f).length := List.length_pos_iff.2 hl
  have hl1 : (labels f).length ≤ f.code.length := labOf_len f.code
  clear H hl
  go_enter Tryd.func38, Tryd.ntmps38
  go_wp2_with fail
  refine (labels_any f _ HH.out hsz).mono ?_
  rintro e w1 ⟨v, rfl, ho, hb⟩
  have HB := Lib.hid (HB.out.below hb HB.out.lt)
  have HH := Lib.hid (HH.out.below hb (Nat.le_refl _))
  have HW := Lib.hid (below_next HW.out hb)
  have hz1 : w.heap.size ≤ w1.heap.size := HW.out.size
  clear hb
  rw [List.length_map] at ho
  obtain ⟨g, c, rfl⟩ : ∃ g c, v = .slice (some ⟨g, 0, none⟩) (labels f).length c := by
    rcases ho.2 with ⟨_, h⟩ | ⟨g, cap, cur, h, _⟩
    · omega
    · exact ⟨g, cap, h⟩
  have ho := Lib.hid (ho.alloc (.cells #[.slice (some ⟨g, 0, none⟩) (labels f).length c] 39))
  go_wp2_with fail
  have HA := (Below.refl w1.heap.size w1).alloc (Nat.le_refl _) (.cells #[.slice (some ⟨g, 0, none⟩) (labels f).length c] 39)
  have HL := Lib.hid (Blk.new w1 #[.slice (some ⟨g, 0, none⟩) (labels f).length c] 39)
  have HB := Lib.hid (HB.out.below HA HB.out.lt)
  have HH := Lib.hid (HH.out.below HA (Nat.le_refl _))
  have HW := Lib.hid (below_next HW.out HA)
  clear HA
  refine (cloneN g _ c _ (labels f) _ rfl hl0 (by omega) ho.out).mono ?_
  rintro e w2 ⟨g', c', rfl, hg', ho2, hb⟩
  have HI := Lib.hid (ints_own ho.out (by omega))
  have HB0 := HB
  have HI0 := HI
  have HH0 := HH
  have HL0 := HL
  have HX := Lib.hid hb
  have HO := Lib.hid ho2
  clear hb ho2
  go_wp2_with (go_at_call 95; refine (sortN g' _ c' _ (labels f) _ rfl (by omega) HO.out).mono ?_; rintro e w3 ⟨rfl, ho3, hb3⟩; have HX := Lib.hid (HX.out.trans (hb3.mono hg')); have HO := Lib.hid ho3; clear ho3 hb3)
  have HL := Lib.hid (HL.out.below HX.out HL.out.lt)
  have HB := Lib.hid (HB.out.below HX.out HB.out.lt)
  have HI := Lib.hid (HI.out.below HX.out (Nat.le_refl _))
  have HH := Lib.hid (HH.out.below HX.out (Nat.le_refl _))
  have HW := Lib.hid (below_next HW.out HX.out)
  have hBg : w.heap.size < g' := by simp at hg'; omega
  have hLg : w1.heap.size < g' := by simp at hg'; omega
  generalize w1.heap.size = L at *
  generalize hBq : w.heap.size = B at *
  have hBq := Lib.hid hBq
  have p0 := HB.out.cell 0
  have p1 := HB.out.cell 1
  have p2 := HB.out.cell 2
  have p3 := HB.out.cell 3
  have q0 := HL.out.cell 0
  simp at p0 p1 p2 p3 q0
  cases c1 : decide (f.params < 0)
  · cases c2 : decide (f.regs < f.params)
    · cases c3 : (((Lib.compact (srt (labels f))).length : Int) == ((labels f).length : Int))
      · have c4 : (((Lib.compact (srt (labels f))).length : Int) != ((labels f).length : Int)) = true := by simpa using c3
        first
        | go_region_with (go_at_call 96; refine (compactN g' _ c' _ (srt (labels f)) w3.drew (by simp [srt]) HO.out).mono ?_; rintro e w4 ⟨rfl, hb4⟩; have hq0 := (hb4.cell (p := ⟨L, 0, none⟩) hLg).trans q0)
        | fail
        all_goals
          go_wp2
          go_ret
          have c5 : ¬ (Lib.compact (srt (labels f))).length = (labels f).length := by intro h; rw [h] at c3; simp at c3
          exact ⟨ret_bool (by simp [irGoodF, c5]), by rw [hBq.out]; exact (below_drew HW.out).trans (hb4.mono (Nat.le_of_lt hBg))⟩
      · have c4 : (((Lib.compact (srt (labels f))).length : Int) != ((labels f).length : Int)) = false := by simpa using c3
        have h0 : ¬ f.code.length = 0 := by omega
        have c6 : ((f.code.length : Int) == 0) = false := by simpa using h0
        first
        | go_region_with (go_at_call 96; refine (compactN g' _ c' _ (srt (labels f)) w3.drew (by simp [srt]) HO.out).mono ?_; rintro e w4 ⟨rfl, hb4⟩; have hq0 := (hb4.cell (p := ⟨L, 0, none⟩) hLg).trans q0; have hp3 := (hb4.cell (p := ⟨B, 3, none⟩) hBg).trans p3)
        | fail
        all_goals
          have HX4 := Lib.hid ((below_drew HX.out).trans (hb4.mono hg'))
          have HB := Lib.hid (HB0.out.below HX4.out HB0.out.lt)
          have HL := Lib.hid (HL0.out.below HX4.out HL0.out.lt)
          have HH := Lib.hid (HH0.out.below HX4.out (Nat.le_refl _))
          have HI := Lib.hid (HI0.out.below HX4.out (Nat.le_refl _))
          have HW4 := Lib.hid ((below_drew HW.out).trans (hb4.mono (Nat.le_of_lt hBg)))
          have hcI := containsIns f w4 HH.out B L (some ⟨g, 0, none⟩) c (labels f) HB.out HL.out HI.out (by omega)
          obtain ⟨b, off, had, hbs, hat⟩ := HH.out.at (by omega)
          obtain ⟨x, hx⟩ : ∃ x, f.code[f.code.length - 1]? = some x := ⟨f.code[f.code.length - 1], List.getElem?_eq_getElem (by omega)⟩
          have hI := Lib.hid (hat _ x hx)
          rw [had] at hcI hp3
          have hcI := Lib.hid hcI
          have hL0 : lastOp f = x.op := by simp [lastOp, List.getD, hx]
          have hL0 := Lib.hid hL0
          have hx := Lib.hid hx
          have had := Lib.hid had
          clear hat p0 p1 p2 p3 q0
          have s0 := hI.out.c0
          have i0 : (0 : Int) ≤ (f.code.length : Int) - 1 := by omega
          have i1 : (f.code.length : Int) - 1 < f.code.length := by omega
          have i2 : ((f.code.length : Int) - 1).toNat = f.code.length - 1 := by omega
          go_wp2_with (go_at_call 97; refine hcI.out.mono ?_; rintro e w5 ⟨rfl, hb5⟩; have hb5 := Lib.hid hb5)
          all_goals
            go_ret
            have hL1 := hL0.out
            have c5 : (Lib.compact (srt (labels f))).length = (labels f).length := by have h := eq_of_beq c3; omega
            refine ⟨ret_bool ?_, by rw [hBq.out]; first | exact HW4.out | exact below_then HW4.out (Nat.le_of_lt HB.out.lt) hb5.out⟩
            simp_all [irGoodF, lastOk]
    · go_quiet (fail)
      go_wp2
      go_ret
      exact ⟨ret_bool (by simp [irGoodF, c1, c2]), by rw [hBq.out]; exact below_drewN HW.out _⟩
  · go_quiet (fail)
    go_wp2
    go_ret
    exact ⟨ret_bool (by simp [irGoodF, c1]), by rw [hBq.out]; exact below_drewN HW.out _⟩
theorem irGood_any (f : FuncD) (w : World) (H : f.Ok w) (hsz : f.code.length ≤ 100000) :
    Calls Tryd.prog 38 #[.agg #[.string f.name, .int .i64 f.params, .int .i64 f.regs, .slice f.ad f.code.length f.cap]] w fun e w' => e = .returned (.bool (irGoodF f)) ∧ Below w.heap.size w w' := by
  by_cases hl : labels f = []
  · exact irGood_nil f w H hsz hl
  · exact irGood_cons f w H hsz hl
end Go.Proofs.YtpbffmkdchiajaaDoor

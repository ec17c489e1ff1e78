/-
  The walks of package ir, eighth part: Good.
-/
import Derived.Test.YtpbffmkdchiajaaDoorIr7
import Derived.Sort.OwnSortedInts
import Derived.Lib.OwnBridge
import Derived.Deep.RegionWith
namespace Go.Proofs.YtpbffmkdchiajaaDoor
open Go.RowKit Go.Shelf Go.Lib
def srt (l : List Int) : List Int := l.mergeSort fun x y => decide (x ≤ y)
def lastOk (op : Int) : Bool := op == 15 || (op == 12 || op == 16)
def lastOp (f : FuncD) : Int := (f.code.getD (f.code.length - 1) default).op
def irGoodF (f : FuncD) : Bool :=
  !decide (f.params < 0) && (!decide (f.regs < f.params) && (((Lib.compact (srt (labels f))).length == (labels f).length) && (!(f.code.length == 0) && (lastOk (lastOp f) && !f.code.any (fun x => !insGoodF f.regs x (labels f))))))
theorem clone0 (p : Option Addr) (c : Nat) (w : World) :
    Calls Tryd.prog 94 #[.slice p 0 c] w fun e w' => ∃ p' c', e = .returned (.slice p' 0 c') ∧ Below w.heap.size w w' := by
  cases p with
  | none => exact (Tryd.slices_Clone_int_nil 0 c w).mono fun e w' ⟨he, hw⟩ => ⟨none, 0, he, by rw [hw]; exact Below.refl _ _⟩
  | some a =>
    refine (Tryd.slices_Clone_int_zero a c w).mono fun e w' ⟨v, he, ho, _, hb⟩ => ?_
    rcases ho.2 with ⟨rfl, _⟩ | ⟨g, cap, cur, rfl, _⟩
    · exact ⟨none, 0, he, hb⟩
    · exact ⟨_, cap, he, hb⟩
theorem cz : (Lib.compact (srt ([] : List Int))).length = 0 := by simp [srt, Lib.compact, Lib.compactUpTo]
theorem sort0 (p : Option Addr) (c : Nat) (w : World) : Calls Tryd.prog 95 #[.slice p 0 c] w fun e w' => e = .returned (.tuple #[]) ∧ w' = w := Any.slices_Sort_int_none Tryd.lays189 p c w
theorem compact0 (p : Option Addr) (c : Nat) (w : World) : Calls Tryd.prog 96 #[.slice p 0 c] w fun e w' => e = .returned (.slice p 0 c) ∧ w' = w := Tryd.slices_Compact_int_empty p c w
set_option maxRecDepth 100000 in
set_option maxHeartbeats 4000000 in
theorem irGood_nil (f : FuncD) (w : World) (H : f.Ok w) (hsz : f.code.length ≤ 100000) (hl : labels f = []) :
    Calls Tryd.prog 38 #[.agg #[.string f.name, .int .i64 f.params, .int .i64 f.regs, .slice f.ad f.code.length f.cap]] w fun e w' => e = .returned (.bool (irGoodF f)) ∧ Below w.heap.size w w' := by
  have HB := Lib.hid (Blk.new w #[.string f.name, .int .i64 f.params, .int .i64 f.regs, .slice f.ad f.code.length f.cap] 68)
  have HW := Lib.hid ((Below.refl w.heap.size w).alloc (Nat.le_refl _) (.cells #[.string f.name, .int .i64 f.params, .int .i64 f.regs, .slice f.ad f.code.length f.cap] 68))
  have HH := Lib.hid (H.below HW.out (Nat.le_refl _))
  have hl := Lib.hid hl
  clear H
  go_enter Tryd.func38, Tryd.ntmps38
  go_wp2_with fail
  refine (labels_any f _ HH.out hsz).mono ?_
  rintro e w1 ⟨v, rfl, ho, hb⟩
  have HB := Lib.hid (HB.out.below hb HB.out.lt)
  have HH := Lib.hid (HH.out.below hb (Nat.le_refl _))
  have HW := Lib.hid (below_next HW.out hb)
  clear hb
  obtain ⟨p, c, rfl⟩ : ∃ p c, v = .slice p 0 c := by
    rw [hl.out] at ho
    rcases ho.2 with ⟨rfl, _⟩ | ⟨g, cap, cur, rfl, _⟩
    · exact ⟨none, 0, rfl⟩
    · exact ⟨_, cap, rfl⟩
  clear ho
  go_wp2_with fail
  have HA := (Below.refl w1.heap.size w1).alloc (Nat.le_refl _) (.cells #[.slice p 0 c] 39)
  have HL := Lib.hid (Blk.new w1 #[.slice p 0 c] 39)
  have HB := Lib.hid (HB.out.below HA HB.out.lt)
  have HH := Lib.hid (HH.out.below HA (Nat.le_refl _))
  have HW := Lib.hid (below_next HW.out HA)
  clear HA
  refine (clone0 p c _).mono ?_
  rintro e w2 ⟨p', c', rfl, hb⟩
  have HL := Lib.hid (HL.out.below hb HL.out.lt)
  have HB := Lib.hid (HB.out.below hb HB.out.lt)
  have HH := Lib.hid (HH.out.below hb (Nat.le_refl _))
  have HW := Lib.hid (below_next HW.out hb)
  clear hb
  generalize w1.heap.size = L at *
  generalize hBq : w.heap.size = B at *
  have hBq := Lib.hid hBq
  go_wp2_with (go_at_call 95; refine (sort0 p' c' _).mono ?_; rintro e w' ⟨rfl, rfl⟩)
  rename_i w3 _ _
  have p0 := HB.out.cell 0
  have p1 := HB.out.cell 1
  have p2 := HB.out.cell 2
  have p3 := HB.out.cell 3
  have q0 := HL.out.cell 0
  simp at p0 p1 p2 p3 q0
  cases c1 : decide (f.params < 0)
  · cases c2 : decide (f.regs < f.params)
    · by_cases h0 : f.code.length = 0
      · have c4 : ((f.code.length : Int) == 0) = true := by simp [h0]
        go_quiet ((go_at_call 96; exact Calls.quiet_of_same (compact0 p' c' _)))
        go_wp2
        go_ret
        exact ⟨ret_bool (by simp [irGoodF, h0]), by rw [hBq.out]; exact below_drewN HW.out _⟩
      · have c4 : ((f.code.length : Int) == 0) = false := by simpa using h0
        go_quiet ((go_at_call 96; exact Calls.quiet_of_same (compact0 p' c' _)))
        have hcI := containsIns f (w'.drewN nq) (HH.out.below (below_drewN (Below.refl _ _) nq) (Nat.le_refl _)) B L p c (labels f) (HB.out.drewN nq) (by rw [hl.out]; exact HL.out) (by rw [hl.out]; exact ints_none _ _) (by omega)
        obtain ⟨b, off, had, hbs, hat⟩ := HH.out.at (by omega)
        obtain ⟨x, hx⟩ : ∃ x, f.code[f.code.length - 1]? = some x := ⟨f.code[f.code.length - 1], List.getElem?_eq_getElem (by omega)⟩
        have hI := Lib.hid (hat _ x hx)
        rw [had] at hcI p3
        have hcI := Lib.hid hcI
        have e3 := hl.out
        have hL0 : lastOp f = x.op := by simp [lastOp, List.getD, hx]
        have hL0 := Lib.hid hL0
        have hx := Lib.hid hx
        have had := Lib.hid had
        clear hat e3
        have s0 := hI.out.c0
        have i0 : (0 : Int) ≤ (f.code.length : Int) - 1 := by omega
        have i1 : (f.code.length : Int) - 1 < f.code.length := by omega
        have i2 : ((f.code.length : Int) - 1).toNat = f.code.length - 1 := by omega
        go_wp2_with (go_at_call 97; refine hcI.out.mono ?_; rintro e w4 ⟨rfl, hb4⟩; have hb4 := Lib.hid hb4)
        all_goals
          go_ret
          have hL1 := hL0.out
          refine ⟨ret_bool ?_, by rw [hBq.out]; first | exact below_drewN HW.out _ | exact below_then (below_drewN HW.out _) (show B ≤ w'.heap.size from Nat.le_of_lt HB.out.lt) hb4.out⟩
          simp_all [irGoodF, lastOk, cz]
    · go_quiet (fail)
      go_wp2
      go_ret
      exact ⟨ret_bool (by simp [irGoodF, c1, c2]), by rw [hBq.out]; exact below_drewN HW.out _⟩
  · go_quiet (fail)
    go_wp2
    go_ret
    exact ⟨ret_bool (by simp [irGoodF, c1]), by rw [hBq.out]; exact below_drewN HW.out _⟩
theorem ints_own {w : World} {base g c : Nat} {zs : List Int} (own : w.ownsRow base 3 1 (.slice (some ⟨g, 0, none⟩) zs.length c) zs.length (zs.map (Value.int .i64))) (hs : zs.length ≤ 100000) : IntsOk w (some ⟨g, 0, none⟩) zs :=
  ⟨by omega, fun h0 => ⟨g, 0, rfl, by
    rcases own.2 with ⟨h, _⟩ | ⟨g', cap, cur, e, _, hcur, _⟩
    · cases h
    · injection e with e1 _ _
      injection e1 with e1
      injection e1 with e1
      subst e1
      exact (Array.getElem?_eq_some_iff.1 hcur).1, fun j hj => by
    rw [Nat.zero_add, own.cellAt j (by omega)]
    simp [List.getD, hj]⟩⟩
theorem compactN (g n c base : Nat) (zs : List Int) (W : World) (hn : zs.length = n) (own : W.ownsRow base 3 1 (.slice (some ⟨g, 0, none⟩) n c) n (zs.map (Value.int .i64))) :
    Calls Tryd.prog 96 #[.slice (some ⟨g, 0, none⟩) n c] W fun e w' => e = .returned (.slice (some ⟨g, 0, none⟩) (Lib.compact zs).length c) ∧ Below g W w' := by
  subst hn
  obtain ⟨_, h⟩ := own
  rcases h with ⟨h, _⟩ | ⟨g', cap, cur, e, _, hcur, hle, hcap, hsz, htk⟩
  · cases h
  · injection e with e1 _ e3
    injection e1 with e1
    injection e1 with e1
    subst e1; subst e3
    rw [Nat.mul_one] at htk
    have hH := holds_of_blockI (ss := zs) hcur htk
    unfold maxLen at hcap
    exact (Tryd.slices_Compact_int g 0 c zs W hH (by omega) hle).mono fun e w' ⟨he, q, hw⟩ => ⟨he, by rw [hw]; exact below_putRow (Below.refl _ _) (Nat.le_refl _)⟩
theorem sortN (g n c base : Nat) (zs : List Int) (W : World) (hn : zs.length = n) (hs : n ≤ 100000) (own : W.ownsRow base 3 1 (.slice (some ⟨g, 0, none⟩) n c) n (zs.map (Value.int .i64))) :
    Calls Tryd.prog 95 #[.slice (some ⟨g, 0, none⟩) n c] W fun e w' => e = .returned (.tuple #[]) ∧ w'.ownsRow base 3 1 (.slice (some ⟨g, 0, none⟩) n c) n ((srt zs).map (Value.int .i64)) ∧ Below g W w' := by
  subst hn
  obtain ⟨_, h⟩ := own
  rcases h with ⟨h, _⟩ | ⟨g', cap, cur, e, hbase, hcur, hle, hcap, hsz, htk⟩
  · cases h
  · injection e with e1 _ e3
    injection e1 with e1
    injection e1 with e1
    subst e1; subst e3
    rw [Nat.mul_one] at htk
    have hH := holds_of_blockI (ss := zs) hcur htk
    have hlt : g < W.heap.size := (Array.getElem?_eq_some_iff.1 hcur).1
    have hc2 := hcap
    unfold maxLen at hcap
    refine (Any.slices_Sort_int Tryd.lays189 g 0 c zs W hH hlt (by omega)).mono fun e w' ⟨he, n, os, hw⟩ => ⟨he, ?_, ?_⟩
    · rw [hw]
      exact ownsRow_sortedI (by simp [srt]) hbase hcur hle hc2 hsz
    · rw [hw]
      have h1 := below_putRow (enc := Value.int .i64) (q := n) (d := (srt zs).toArray) (Below.refl g W) (Nat.le_refl g)
      exact h1.trans ((below_growN _ 0 os).mono (by have := h1.size; omega))
theorem cloneN (g n c base : Nat) (zs : List Int) (W : World) (hn : zs.length = n) (h0 : 0 < n) (hs : n ≤ 100000) (own : W.ownsRow base 3 1 (.slice (some ⟨g, 0, none⟩) n c) n (zs.map (Value.int .i64))) :
    Calls Tryd.prog 94 #[.slice (some ⟨g, 0, none⟩) n c] W fun e w' => ∃ g' c', e = .returned (.slice (some ⟨g', 0, none⟩) n c') ∧ W.heap.size ≤ g' ∧ w'.ownsRow W.heap.size 3 1 (.slice (some ⟨g', 0, none⟩) n c') n (zs.map (Value.int .i64)) ∧ Below W.heap.size W w' := by
  subst hn
  refine (Tryd.slices_Clone_int g 0 zs.length c zs W (Nat.le_refl _) (by omega) (fun j hj => ?_)).mono fun e w' ⟨v, he, ho, _, hb⟩ => ?_
  · rw [Nat.zero_add]
    have := own.cellAt j (by omega)
    rw [this]
    simp [List.getD, hj]
  · rw [List.take_length] at ho
    have ho2 := ho
    rcases ho.2 with ⟨rfl, h⟩ | ⟨g', cap, cur, rfl, hg, _⟩
    · omega
    · exact ⟨g', cap, he, hg, ho2, hb⟩
end Go.Proofs.YtpbffmkdchiajaaDoor

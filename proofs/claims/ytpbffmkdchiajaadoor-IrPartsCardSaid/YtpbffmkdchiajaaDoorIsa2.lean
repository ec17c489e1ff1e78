/-
  The walks of package isa, second part: Good.
-/
import Derived.Test.YtpbffmkdchiajaaDoorIsaUsed
import Derived.Deep.RegionHeld3
import Derived.Deep.RegionWith
import Derived.Test.YtpbffmkdchiajaaDoorIsaEq
import Derived.Test.YtpbffmkdchiajaaDoorIsa1
namespace Go.Proofs.YtpbffmkdchiajaaDoor
open Go.RowKit Go.Lib
/-- The box of a struct parameter, behind a call that only makes memory. -/
theorem boxS {w w' : World} {op d a b imm : Int} (hb : Below (w.alloc (.cells #[.int .i64 op, .int .i64 d, .int .i64 a, .int .i64 b, .int .i64 imm] 23)).drew.heap.size (w.alloc (.cells #[.int .i64 op, .int .i64 d, .int .i64 a, .int .i64 b, .int .i64 imm] 23)).drew w') :
   w'.cell? ⟨w.heap.size, 0, none⟩ = some (.int .i64 op) ∧ w'.cell? ⟨w.heap.size, 1, none⟩ = some (.int .i64 d) ∧ w'.cell? ⟨w.heap.size, 2, none⟩ = some (.int .i64 a) ∧ w'.cell? ⟨w.heap.size, 3, none⟩ = some (.int .i64 b) ∧ w'.cell? ⟨w.heap.size, 4, none⟩ = some (.int .i64 imm) ∧ w.heap.size < w'.heap.size ∧ Below w.heap.size w w' ∧ Hid (Blk w' w.heap.size #[.int .i64 op, .int .i64 d, .int .i64 a, .int .i64 b, .int .i64 imm] 23) := by
  have hB : Blk w' w.heap.size #[.int .i64 op, .int .i64 d, .int .i64 a, .int .i64 b, .int .i64 imm] 23 := (Blk.new w _ _).drew.below hb (by simp)
  have hz := hb.size
  refine ⟨hB.cell 0, hB.cell 1, hB.cell 2, hB.cell 3, hB.cell 4, by simp at hz; omega, ?_, hB⟩
  exact below_then (w1 := (w.alloc (.cells #[.int .i64 op, .int .i64 d, .int .i64 a, .int .i64 b, .int .i64 imm] 23)).drew) ((Below.refl _ _).alloc (Nat.le_refl _) _).drew (by simp) hb
def usedB (l : List UInt8) (d a b imm : Int) : Bool := decide (uD l d = d ∧ uA l a = a ∧ uB l b = b ∧ uI l imm = imm)
/-- The loop of 'Good' behind k bytes. -/
structure GoodRel (w W1 : World) (op d a b imm : Int) (s : ByteArray) (k : Nat) (wr : World) : Prop where
  below : Below w.heap.size w wr
  prm : Blk wr w.heap.size #[.int .i64 op, .int .i64 d, .int .i64 a, .int .i64 b, .int .i64 imm] 23
  byts : Byts wr W1.heap.size s
  oks : (s.data.toList.take k).all (fun c => pOk c.toNat d a b imm) = true
def goodB (l : List UInt8) (op d a b imm : Int) : Bool := usedB l d a b imm && !(decide (op = 21) && decide (imm < 0)) && l.all (fun c => pOk c.toNat d a b imm)
theorem all_false_at (l : List UInt8) (k : Nat) (f : UInt8 → Bool) (h : k < l.length) (hf : f (l.getD k 0) = false) : l.all f = false := by
  rw [List.all_eq_false]
  refine ⟨l.getD k 0, ?_, by rw [hf]; simp⟩
  rw [List.getD_eq_getElem?_getD, List.getElem?_eq_getElem h]
  exact List.getElem_mem h
def fieldBytes (s : ByteArray) : Prop := ∀ k, k < s.size → (s.data.toList.getD k 0).toNat ∈ [100, 97, 98, 105, 109, 111, 108, 99]
set_option maxHeartbeats 1000000 in
theorem good_uf (op d a b imm : Int) (s : ByteArray) (w : World) (ho : 1 ≤ op) (ho' : op ≤ 22) (hs : s.size ≤ 100) (hf : Hid (fieldBytes s))
   (hg : w.cell? ⟨0, op.toNat * 3 + 1, none⟩ = some (.string s)) (hw : 0 < w.heap.size) (hu : Hid (usedB s.data.toList d a b imm = false))  :
    Calls Tryd.prog 12 #[.agg #[.int .i64 op, .int .i64 d, .int .i64 a, .int .i64 b, .int .i64 imm]] w fun e w' =>
      e = .returned (.bool (goodB s.data.toList op d a b imm)) ∧ Below w.heap.size w w' := by
  have g1 : decide (op < 1) = false := by simp; omega
  have g2 : decide (22 < op) = false := by simp; omega
  have hq : ∀ W, (binOp .neq 23 (.agg #[.int .i64 op, .int .i64 (uD s.data.toList d), .int .i64 (uA s.data.toList a), .int .i64 (uB s.data.toList b), .int .i64 (uI s.data.toList imm)]) (.agg #[.int .i64 op, .int .i64 d, .int .i64 a, .int .i64 b, .int .i64 imm])).run Tryd.prog W = .ok (.bool true) W := by
    intro W
    rw [neq_inst]
    have h : usedB s.data.toList d a b imm = false := hu
    unfold usedB at h
    simp only [decide_eq_false_iff_not] at h
    simp [h]
  have kb := fun W => Lib.run_convert_string_bytes (P := Tryd.prog) W 9 89 5 s Tryd.underlying9 Tryd.underlying89 Tryd.underlying5
  go_enter Tryd.func12, Tryd.ntmps12
  go_wp2
  have B0 : Blk (w.alloc (.cells #[.int .i64 op, .int .i64 d, .int .i64 a, .int .i64 b, .int .i64 imm] 23)) w.heap.size #[.int .i64 op, .int .i64 d, .int .i64 a, .int .i64 b, .int .i64 imm] 23 := Blk.new _ _ _
  have l0 := fun g => gw_cell (v := .int .i64 op) (B0.cell 0) g
  have l1 := fun g => gw_cell (v := .int .i64 d) (B0.cell 1) g
  have l2 := fun g => gw_cell (v := .int .i64 a) (B0.cell 2) g
  have l3 := fun g => gw_cell (v := .int .i64 b) (B0.cell 3) g
  have l4 := fun g => gw_cell (v := .int .i64 imm) (B0.cell 4) g
  have lg := fun g => gw_cell (((Below.refl _ w).alloc (Nat.le_refl _) (.cells #[.int .i64 op, .int .i64 d, .int .i64 a, .int .i64 b, .int .i64 imm] 23)).cell (p := ⟨0, op.toNat * 3 + 1, none⟩) hw ▸ hg) g
  have lz : ∀ g : GW (w.alloc (.cells #[.int .i64 op, .int .i64 d, .int .i64 a, .int .i64 b, .int .i64 imm] 23)), 0 < g.W.heap.size := fun g => by have := g.h.size; simp at this; omega
  refine wp_region_gw_lit (by kernel_rfl) (by kernel_rfl) ?_
  repeat (go_big_quiet_step ((go_at_call 54; exact gw_call (used_any op d a b imm s _ ho ho' hs (lg _) (lz _)))))
  refine wpQuiet_nil ?_
  rintro _ ⟨g, rfl⟩
  have HB := Lib.hid B0
  have Hl0 := l0 g
  have Hlg := lg g
  have hbel : Below w.heap.size w g.W := below_then ((Below.refl _ w).alloc (Nat.le_refl _) (.cells #[.int .i64 op, .int .i64 d, .int .i64 a, .int .i64 b, .int .i64 imm] 23)) (by simp) g.h
  have hlt : w.heap.size < g.W.heap.size := by have := g.h.size; simp at this; omega
  clear l0 l1 l2 l3 l4 lg lz B0 hq
  go_wp2
  go_ret
  refine ⟨ret_bool ?_, hbel⟩
  have h := hu.out
  simp only [goodB, h, Bool.false_and]
set_option maxHeartbeats 1000000 in
theorem good_n21 (op d a b imm : Int) (s : ByteArray) (w : World) (ho : 1 ≤ op) (ho' : op ≤ 22) (hs : s.size ≤ 100) (hf : Hid (fieldBytes s))
   (hg : w.cell? ⟨0, op.toNat * 3 + 1, none⟩ = some (.string s)) (hw : 0 < w.heap.size) (hu : Hid (usedB s.data.toList d a b imm = true)) (h21 : (op == 21) = false) :
    Calls Tryd.prog 12 #[.agg #[.int .i64 op, .int .i64 d, .int .i64 a, .int .i64 b, .int .i64 imm]] w fun e w' =>
      e = .returned (.bool (goodB s.data.toList op d a b imm)) ∧ Below w.heap.size w w' := by
  have g1 : decide (op < 1) = false := by simp; omega
  have g2 : decide (22 < op) = false := by simp; omega
  have hq : ∀ W, (binOp .neq 23 (.agg #[.int .i64 op, .int .i64 (uD s.data.toList d), .int .i64 (uA s.data.toList a), .int .i64 (uB s.data.toList b), .int .i64 (uI s.data.toList imm)]) (.agg #[.int .i64 op, .int .i64 d, .int .i64 a, .int .i64 b, .int .i64 imm])).run Tryd.prog W = .ok (.bool false) W := by
    intro W
    rw [neq_inst]
    have h : usedB s.data.toList d a b imm = true := hu
    unfold usedB at h
    simp at h
    simp [h]
  have kb := fun W => Lib.run_convert_string_bytes (P := Tryd.prog) W 9 89 5 s Tryd.underlying9 Tryd.underlying89 Tryd.underlying5
  go_enter Tryd.func12, Tryd.ntmps12
  go_wp2
  have B0 : Blk (w.alloc (.cells #[.int .i64 op, .int .i64 d, .int .i64 a, .int .i64 b, .int .i64 imm] 23)) w.heap.size #[.int .i64 op, .int .i64 d, .int .i64 a, .int .i64 b, .int .i64 imm] 23 := Blk.new _ _ _
  have l0 := fun g => gw_cell (v := .int .i64 op) (B0.cell 0) g
  have l1 := fun g => gw_cell (v := .int .i64 d) (B0.cell 1) g
  have l2 := fun g => gw_cell (v := .int .i64 a) (B0.cell 2) g
  have l3 := fun g => gw_cell (v := .int .i64 b) (B0.cell 3) g
  have l4 := fun g => gw_cell (v := .int .i64 imm) (B0.cell 4) g
  have lg := fun g => gw_cell (((Below.refl _ w).alloc (Nat.le_refl _) (.cells #[.int .i64 op, .int .i64 d, .int .i64 a, .int .i64 b, .int .i64 imm] 23)).cell (p := ⟨0, op.toNat * 3 + 1, none⟩) hw ▸ hg) g
  have lz : ∀ g : GW (w.alloc (.cells #[.int .i64 op, .int .i64 d, .int .i64 a, .int .i64 b, .int .i64 imm] 23)), 0 < g.W.heap.size := fun g => by have := g.h.size; simp at this; omega
  refine wp_region_gw_lit (by kernel_rfl) (by kernel_rfl) ?_
  repeat (go_big_quiet_step ((go_at_call 54; exact gw_call (used_any op d a b imm s _ ho ho' hs (lg _) (lz _)))))
  refine wpQuiet_nil ?_
  rintro _ ⟨g, rfl⟩
  have HB := Lib.hid B0
  have Hl0 := l0 g
  have Hlg := lg g
  have hbel : Below w.heap.size w g.W := below_then ((Below.refl _ w).alloc (Nat.le_refl _) (.cells #[.int .i64 op, .int .i64 d, .int .i64 a, .int .i64 b, .int .i64 imm] 23)) (by simp) g.h
  have hlt : w.heap.size < g.W.heap.size := by have := g.h.size; simp at this; omega
  clear l0 l1 l2 l3 l4 lg lz B0 hq
  go_wp2
  clear kb Hl0 Hlg
  go_loopw [40] (fun i wr => ∃ k : Nat, k ≤ s.size ∧ i = .int .i64 k ∧ GoodRel w g.W op d a b imm s k wr) (fun i _ => s.size - (intOf i).toNat)
  case atStart =>
    have hb2 : Below g.W.heap.size g.W (Lib.bytesWorld g.W 5 s) := bytes_below (Below.refl _ _) (Nat.le_refl _) 5 s
    refine ⟨0, Nat.zero_le _, rfl, ?_, ?_, ?_, by simp⟩
    · exact bytes_below hbel (by omega) 5 s
    · exact (HB.out.below g.h (by simp)).below hb2 hlt
    · exact Byts.new g.W s 5
  case round =>
    obtain ⟨k, hk, rfl, hr⟩ := hrel
    by_cases hlk : k < s.size
    · have hb := hr.byts k hlk
      have hsn := Lib.hid (take_snoc s.data.toList k (by simpa using hlk))
      have hfc := Lib.hid (hf.out k hlk)
      have hn : k + 1 ≤ s.size := hlk
      have hall := Lib.hid (all_false_at s.data.toList k (fun c => pOk c.toNat d a b imm) (by simpa using hlk))
      generalize hcc : s.data.toList.getD k 0 = c at *
      have Hcc := Lib.hid hcc
      clear hcc
      cases hok : pOk c.toNat d a b imm
      · go_wp2_with (go_at_call 51; refine (part_any _ hfc.out op d a b imm _ _ hr.prm).mono ?_; rintro e w' ⟨rfl, n, rfl⟩)
        go_ret
        refine ⟨ret_bool ?_, below_drewN hr.below n⟩
        have h := hall.out hok
        simp [goodB, h]
      · go_wp2_with (go_at_call 51; refine (part_any _ hfc.out op d a b imm _ _ hr.prm).mono ?_; rintro e w' ⟨rfl, n, rfl⟩)
        refine ⟨⟨k + 1, hn, by go_num, ⟨below_drewN hr.below n, hr.prm.drewN n, hr.byts, ?_⟩⟩, by simp [intOf]; omega⟩
        rw [hsn.out, List.all_append, hr.oks]
        simp [hok]
    · have hke : k = s.size := by omega
      have hoks := hr.oks
      have hbl := hr.below
      have Hke := Lib.hid hke
      clear hke
      go_wp2
      go_ret
      refine ⟨ret_bool ?_, hbl⟩
      have hT : s.data.toList.take k = s.data.toList := List.take_of_length_le (by have := Hke.out; simp; omega)
      rw [hT] at hoks
      have h := hu.out
      have e : (decide (op = 21) && decide (imm < 0)) = false := by
        first
          | rw [decide_eq_false (show ¬ op = 21 by simpa using h21)]; rfl
          | rw [decide_eq_false (show ¬ imm < 0 by simpa using hi)]; simp
      simp only [goodB, h, hoks, e]
      simp
set_option maxHeartbeats 1000000 in
theorem good_21 (op d a b imm : Int) (s : ByteArray) (w : World) (ho : 1 ≤ op) (ho' : op ≤ 22) (hs : s.size ≤ 100) (hf : Hid (fieldBytes s))
   (hg : w.cell? ⟨0, op.toNat * 3 + 1, none⟩ = some (.string s)) (hw : 0 < w.heap.size) (hu : Hid (usedB s.data.toList d a b imm = true)) (h21 : (op == 21) = true) (hi : decide (imm < 0) = false) :
    Calls Tryd.prog 12 #[.agg #[.int .i64 op, .int .i64 d, .int .i64 a, .int .i64 b, .int .i64 imm]] w fun e w' =>
      e = .returned (.bool (goodB s.data.toList op d a b imm)) ∧ Below w.heap.size w w' := by
  have g1 : decide (op < 1) = false := by simp; omega
  have g2 : decide (22 < op) = false := by simp; omega
  have hq : ∀ W, (binOp .neq 23 (.agg #[.int .i64 op, .int .i64 (uD s.data.toList d), .int .i64 (uA s.data.toList a), .int .i64 (uB s.data.toList b), .int .i64 (uI s.data.toList imm)]) (.agg #[.int .i64 op, .int .i64 d, .int .i64 a, .int .i64 b, .int .i64 imm])).run Tryd.prog W = .ok (.bool false) W := by
    intro W
    rw [neq_inst]
    have h : usedB s.data.toList d a b imm = true := hu
    unfold usedB at h
    simp at h
    simp [h]
  have kb := fun W => Lib.run_convert_string_bytes (P := Tryd.prog) W 9 89 5 s Tryd.underlying9 Tryd.underlying89 Tryd.underlying5
  go_enter Tryd.func12, Tryd.ntmps12
  go_wp2
  have B0 : Blk (w.alloc (.cells #[.int .i64 op, .int .i64 d, .int .i64 a, .int .i64 b, .int .i64 imm] 23)) w.heap.size #[.int .i64 op, .int .i64 d, .int .i64 a, .int .i64 b, .int .i64 imm] 23 := Blk.new _ _ _
  have l0 := fun g => gw_cell (v := .int .i64 op) (B0.cell 0) g
  have l1 := fun g => gw_cell (v := .int .i64 d) (B0.cell 1) g
  have l2 := fun g => gw_cell (v := .int .i64 a) (B0.cell 2) g
  have l3 := fun g => gw_cell (v := .int .i64 b) (B0.cell 3) g
  have l4 := fun g => gw_cell (v := .int .i64 imm) (B0.cell 4) g
  have lg := fun g => gw_cell (((Below.refl _ w).alloc (Nat.le_refl _) (.cells #[.int .i64 op, .int .i64 d, .int .i64 a, .int .i64 b, .int .i64 imm] 23)).cell (p := ⟨0, op.toNat * 3 + 1, none⟩) hw ▸ hg) g
  have lz : ∀ g : GW (w.alloc (.cells #[.int .i64 op, .int .i64 d, .int .i64 a, .int .i64 b, .int .i64 imm] 23)), 0 < g.W.heap.size := fun g => by have := g.h.size; simp at this; omega
  refine wp_region_gw_lit (by kernel_rfl) (by kernel_rfl) ?_
  repeat (go_big_quiet_step ((go_at_call 54; exact gw_call (used_any op d a b imm s _ ho ho' hs (lg _) (lz _)))))
  refine wpQuiet_nil ?_
  rintro _ ⟨g, rfl⟩
  have HB := Lib.hid B0
  have Hl0 := l0 g
  have Hlg := lg g
  have hbel : Below w.heap.size w g.W := below_then ((Below.refl _ w).alloc (Nat.le_refl _) (.cells #[.int .i64 op, .int .i64 d, .int .i64 a, .int .i64 b, .int .i64 imm] 23)) (by simp) g.h
  have hlt : w.heap.size < g.W.heap.size := by have := g.h.size; simp at this; omega
  clear l0 l1 l2 l3 l4 lg lz B0 hq
  go_wp2
  clear kb Hl0 Hlg
  go_loopw [40] (fun i wr => ∃ k : Nat, k ≤ s.size ∧ i = .int .i64 k ∧ GoodRel w g.W op d a b imm s k wr) (fun i _ => s.size - (intOf i).toNat)
  case atStart =>
    have hb2 : Below g.W.heap.size g.W (Lib.bytesWorld g.W 5 s) := bytes_below (Below.refl _ _) (Nat.le_refl _) 5 s
    refine ⟨0, Nat.zero_le _, rfl, ?_, ?_, ?_, by simp⟩
    · exact bytes_below hbel (by omega) 5 s
    · exact (HB.out.below g.h (by simp)).below hb2 hlt
    · exact Byts.new g.W s 5
  case round =>
    obtain ⟨k, hk, rfl, hr⟩ := hrel
    by_cases hlk : k < s.size
    · have hb := hr.byts k hlk
      have hsn := Lib.hid (take_snoc s.data.toList k (by simpa using hlk))
      have hfc := Lib.hid (hf.out k hlk)
      have hn : k + 1 ≤ s.size := hlk
      have hall := Lib.hid (all_false_at s.data.toList k (fun c => pOk c.toNat d a b imm) (by simpa using hlk))
      generalize hcc : s.data.toList.getD k 0 = c at *
      have Hcc := Lib.hid hcc
      clear hcc
      cases hok : pOk c.toNat d a b imm
      · go_wp2_with (go_at_call 51; refine (part_any _ hfc.out op d a b imm _ _ hr.prm).mono ?_; rintro e w' ⟨rfl, n, rfl⟩)
        go_ret
        refine ⟨ret_bool ?_, below_drewN hr.below n⟩
        have h := hall.out hok
        simp [goodB, h]
      · go_wp2_with (go_at_call 51; refine (part_any _ hfc.out op d a b imm _ _ hr.prm).mono ?_; rintro e w' ⟨rfl, n, rfl⟩)
        refine ⟨⟨k + 1, hn, by go_num, ⟨below_drewN hr.below n, hr.prm.drewN n, hr.byts, ?_⟩⟩, by simp [intOf]; omega⟩
        rw [hsn.out, List.all_append, hr.oks]
        simp [hok]
    · have hke : k = s.size := by omega
      have hoks := hr.oks
      have hbl := hr.below
      have Hke := Lib.hid hke
      clear hke
      go_wp2
      go_ret
      refine ⟨ret_bool ?_, hbl⟩
      have hT : s.data.toList.take k = s.data.toList := List.take_of_length_le (by have := Hke.out; simp; omega)
      rw [hT] at hoks
      have h := hu.out
      have e : (decide (op = 21) && decide (imm < 0)) = false := by
        first
          | rw [decide_eq_false (show ¬ op = 21 by simpa using h21)]; rfl
          | rw [decide_eq_false (show ¬ imm < 0 by simpa using hi)]; simp
      simp only [goodB, h, hoks, e]
      simp
set_option maxHeartbeats 1000000 in
theorem good_21n (op d a b imm : Int) (s : ByteArray) (w : World) (ho : 1 ≤ op) (ho' : op ≤ 22) (hs : s.size ≤ 100) (hf : Hid (fieldBytes s))
   (hg : w.cell? ⟨0, op.toNat * 3 + 1, none⟩ = some (.string s)) (hw : 0 < w.heap.size) (hu : Hid (usedB s.data.toList d a b imm = true)) (h21 : (op == 21) = true) (hi : decide (imm < 0) = true) :
    Calls Tryd.prog 12 #[.agg #[.int .i64 op, .int .i64 d, .int .i64 a, .int .i64 b, .int .i64 imm]] w fun e w' =>
      e = .returned (.bool (goodB s.data.toList op d a b imm)) ∧ Below w.heap.size w w' := by
  have g1 : decide (op < 1) = false := by simp; omega
  have g2 : decide (22 < op) = false := by simp; omega
  have hq : ∀ W, (binOp .neq 23 (.agg #[.int .i64 op, .int .i64 (uD s.data.toList d), .int .i64 (uA s.data.toList a), .int .i64 (uB s.data.toList b), .int .i64 (uI s.data.toList imm)]) (.agg #[.int .i64 op, .int .i64 d, .int .i64 a, .int .i64 b, .int .i64 imm])).run Tryd.prog W = .ok (.bool false) W := by
    intro W
    rw [neq_inst]
    have h : usedB s.data.toList d a b imm = true := hu
    unfold usedB at h
    simp at h
    simp [h]
  have kb := fun W => Lib.run_convert_string_bytes (P := Tryd.prog) W 9 89 5 s Tryd.underlying9 Tryd.underlying89 Tryd.underlying5
  go_enter Tryd.func12, Tryd.ntmps12
  go_wp2
  have B0 : Blk (w.alloc (.cells #[.int .i64 op, .int .i64 d, .int .i64 a, .int .i64 b, .int .i64 imm] 23)) w.heap.size #[.int .i64 op, .int .i64 d, .int .i64 a, .int .i64 b, .int .i64 imm] 23 := Blk.new _ _ _
  have l0 := fun g => gw_cell (v := .int .i64 op) (B0.cell 0) g
  have l1 := fun g => gw_cell (v := .int .i64 d) (B0.cell 1) g
  have l2 := fun g => gw_cell (v := .int .i64 a) (B0.cell 2) g
  have l3 := fun g => gw_cell (v := .int .i64 b) (B0.cell 3) g
  have l4 := fun g => gw_cell (v := .int .i64 imm) (B0.cell 4) g
  have lg := fun g => gw_cell (((Below.refl _ w).alloc (Nat.le_refl _) (.cells #[.int .i64 op, .int .i64 d, .int .i64 a, .int .i64 b, .int .i64 imm] 23)).cell (p := ⟨0, op.toNat * 3 + 1, none⟩) hw ▸ hg) g
  have lz : ∀ g : GW (w.alloc (.cells #[.int .i64 op, .int .i64 d, .int .i64 a, .int .i64 b, .int .i64 imm] 23)), 0 < g.W.heap.size := fun g => by have := g.h.size; simp at this; omega
  refine wp_region_gw_lit (by kernel_rfl) (by kernel_rfl) ?_
  repeat (go_big_quiet_step ((go_at_call 54; exact gw_call (used_any op d a b imm s _ ho ho' hs (lg _) (lz _)))))
  refine wpQuiet_nil ?_
  rintro _ ⟨g, rfl⟩
  have HB := Lib.hid B0
  have Hl0 := l0 g
  have Hlg := lg g
  have hbel : Below w.heap.size w g.W := below_then ((Below.refl _ w).alloc (Nat.le_refl _) (.cells #[.int .i64 op, .int .i64 d, .int .i64 a, .int .i64 b, .int .i64 imm] 23)) (by simp) g.h
  have hlt : w.heap.size < g.W.heap.size := by have := g.h.size; simp at this; omega
  clear l0 l1 l2 l3 l4 lg lz B0 hq
  go_wp2
  go_ret
  refine ⟨ret_bool ?_, hbel⟩
  have e1 : decide (op = 21) = true := by simpa using h21
  simp only [goodB, e1, hi]
  simp
set_option maxHeartbeats 1000000 in
theorem good_lo (op d a b imm : Int) (w : World) (ho : op < 1) :
    Calls Tryd.prog 12 #[.agg #[.int .i64 op, .int .i64 d, .int .i64 a, .int .i64 b, .int .i64 imm]] w fun e w' => e = .returned (.bool false) ∧ Below w.heap.size w w' := by
  have g1 : decide (op < 1) = true := by simpa using ho
  go_enter Tryd.func12, Tryd.ntmps12
  go_wp2
  go_quiet (fail)
  all_goals go_wp2
  go_ret
  exact ⟨rfl, below_drewN ((Below.refl _ w).alloc (Nat.le_refl _) _) nq⟩
set_option maxHeartbeats 1000000 in
theorem good_hi (op d a b imm : Int) (w : World) (ho : 22 < op) :
    Calls Tryd.prog 12 #[.agg #[.int .i64 op, .int .i64 d, .int .i64 a, .int .i64 b, .int .i64 imm]] w fun e w' => e = .returned (.bool false) ∧ Below w.heap.size w w' := by
  have g1 : decide (op < 1) = false := by simp; omega
  have g2 : decide (22 < op) = true := by simpa using ho
  go_enter Tryd.func12, Tryd.ntmps12
  go_wp2
  go_quiet (fail)
  all_goals go_wp2
  go_ret
  exact ⟨rfl, below_drewN ((Below.refl _ w).alloc (Nat.le_refl _) _) nq⟩
/-- The table of the operations, as the world holds it: block 0. -/
structure Shp (nm fl : Nat → ByteArray) (wd : Nat → Int) (w : World) : Prop where
  pos : 0 < w.heap.size
  name : ∀ k, 1 ≤ k → k ≤ 22 → w.cell? ⟨0, k * 3, none⟩ = some (.string (nm k))
  flds : ∀ k, 1 ≤ k → k ≤ 22 → w.cell? ⟨0, k * 3 + 1, none⟩ = some (.string (fl k))
  word : ∀ k, 1 ≤ k → k ≤ 22 → w.cell? ⟨0, k * 3 + 2, none⟩ = some (.int .u32 (wd k))
theorem Shp.below {nm fl : Nat → ByteArray} {wd : Nat → Int} {w w' : World} {B : Nat} (h : Shp nm fl wd w) (hb : Below B w w') (hB : 0 < B) : Shp nm fl wd w' where
  pos := Nat.lt_of_lt_of_le h.pos hb.size
  name := fun k h1 h2 => (hb.cell (p := ⟨0, k * 3, none⟩) hB).trans (h.name k h1 h2)
  flds := fun k h1 h2 => (hb.cell (p := ⟨0, k * 3 + 1, none⟩) hB).trans (h.flds k h1 h2)
  word := fun k h1 h2 => (hb.cell (p := ⟨0, k * 3 + 2, none⟩) hB).trans (h.word k h1 h2)
/-- What is asked of the table's texts. -/
structure FlOk (fl : Nat → ByteArray) : Prop where
  size : ∀ k, 1 ≤ k → k ≤ 22 → (fl k).size ≤ 100
  byts : ∀ k, 1 ≤ k → k ≤ 22 → fieldBytes (fl k)
def goodI (fl : Nat → ByteArray) (op d a b imm : Int) : Bool := decide (1 ≤ op ∧ op ≤ 22) && goodB (fl op.toNat).data.toList op d a b imm
theorem good_inst {nm fl : Nat → ByteArray} {wd : Nat → Int} (F : FlOk fl) (op d a b imm : Int) (w : World) (H : Shp nm fl wd w) :
    Calls Tryd.prog 12 #[.agg #[.int .i64 op, .int .i64 d, .int .i64 a, .int .i64 b, .int .i64 imm]] w fun e w' => e = .returned (.bool (goodI fl op d a b imm)) ∧ Below w.heap.size w w' := by
  by_cases h1 : op < 1
  · have e : goodI fl op d a b imm = false := by unfold goodI; rw [decide_eq_false (by omega)]; rfl
    rw [e]; exact good_lo op d a b imm w h1
  by_cases h2 : 22 < op
  · have e : goodI fl op d a b imm = false := by unfold goodI; rw [decide_eq_false (by omega)]; rfl
    rw [e]; exact good_hi op d a b imm w h2
  have e : goodI fl op d a b imm = goodB (fl op.toNat).data.toList op d a b imm := by unfold goodI; rw [decide_eq_true (by omega)]; rfl
  rw [e]
  have s1 := F.size op.toNat (by omega) (by omega)
  have s2 := F.byts op.toNat (by omega) (by omega)
  have s3 := H.flds op.toNat (by omega) (by omega)
  cases hu : usedB (fl op.toNat).data.toList d a b imm
  · exact good_uf op d a b imm _ w (by omega) (by omega) s1 s2 s3 H.pos hu
  · by_cases h3 : op = 21
    · by_cases h4 : imm < 0
      · exact good_21n op d a b imm _ w (by omega) (by omega) s1 s2 s3 H.pos hu (by simpa using h3) (by simpa using h4)
      · exact good_21 op d a b imm _ w (by omega) (by omega) s1 s2 s3 H.pos hu (by simpa using h3) (by simpa using h4)
    · exact good_n21 op d a b imm _ w (by omega) (by omega) s1 s2 s3 H.pos hu (by simpa using h3)
end Go.Proofs.YtpbffmkdchiajaaDoor

/-
  The law IsaWrites: for every input the call returns true, and what was there before is as it was.
-/
import Derived.Test.YtpbffmkdchiajaaDoorIsaLaw1
namespace Go.Proofs.YtpbffmkdchiajaaDoor
open Go.RowKit
theorem neq_str (T : ByteArray) (W : World) : (binOp .neq 9 (.string T) (.string T)).run Tryd.prog W = .ok (.bool false) W := by
  simp [binOp, Op.stringOp]
set_option maxHeartbeats 2000000 in
theorem isaWrites_true (op d a b imm : Int) (w : World) (H : LawW w) (hg : goodR op d a b imm = true) :
    Calls Tryd.prog 3 #[.agg #[.int .i64 op, .int .i64 d, .int .i64 a, .int .i64 b, .int .i64 imm]] w fun e w' => e = .returned (.bool true) ∧ Below w.heap.size w w' := by
  obtain ⟨T, hT⟩ : ∃ T, T = txtR op d a b imm := ⟨_, rfl⟩
  obtain ⟨E, hE⟩ : ∃ E, E = encR op d a b imm := ⟨_, rfl⟩
  have c10 : Hid (∀ w, Calls Tryd.prog 10 #[.agg #[.int .i64 op, .int .i64 d, .int .i64 a, .int .i64 b, .int .i64 imm]] w fun e w' => e = .returned (.bool true) ∧ Below w.heap.size w w') := fun w => hg ▸ goodR_any op d a b imm w
  have c12 : Hid (∀ w, LawW w → Calls Tryd.prog 12 #[.agg #[.int .i64 op, .int .i64 d, .int .i64 a, .int .i64 b, .int .i64 imm]] w fun e w' => e = .returned (.bool true) ∧ Below w.heap.size w w') := fun w H => hg ▸ good_all op d a b imm w H
  have c11 : Hid (∀ w, LawW w → Calls Tryd.prog 11 #[.agg #[.int .i64 op, .int .i64 d, .int .i64 a, .int .i64 b, .int .i64 imm]] w fun e w' => e = .returned (.tuple #[.int .u32 E, .int .i64 0]) ∧ Below w.heap.size w w') := fun w H => by
    have h := enc_all op d a b imm w H
    rw [hg] at h
    rw [hE]
    exact h
  have c13 : Hid (∀ w, LawW w → Calls Tryd.prog 13 #[.agg #[.int .i64 op, .int .i64 d, .int .i64 a, .int .i64 b, .int .i64 imm]] w fun e w' => e = .returned (.string T) ∧ Below w.heap.size w w') := fun w H => hT ▸ text_all op d a b imm w H
  have c14 : Hid (∀ w, LawW w → Calls Tryd.prog 14 #[.agg #[.int .i64 op, .int .i64 d, .int .i64 a, .int .i64 b, .int .i64 imm]] w fun e w' => e = .returned (.string T) ∧ Below w.heap.size w w') := fun w H => hT ▸ textR_all op d a b imm w H
  have c15 : Hid (∀ w, Calls Tryd.prog 15 #[.agg #[.int .i64 op, .int .i64 d, .int .i64 a, .int .i64 b, .int .i64 imm]] w fun e w' => e = .returned (.int .u32 E) ∧ Below w.heap.size w w') := fun w => hE ▸ encR_all op d a b imm w hg
  clear hE
  clear hT
  have HA := Lib.hid (H.alloc (.cells #[.int .i64 op, .int .i64 d, .int .i64 a, .int .i64 b, .int .i64 imm] 23))
  have b0 := Lib.hid ((Below.refl w.heap.size w).alloc (Nat.le_refl _) (.cells #[.int .i64 op, .int .i64 d, .int .i64 a, .int .i64 b, .int .i64 imm] 23))
  have HB := Lib.hid (Blk.new w #[.int .i64 op, .int .i64 d, .int .i64 a, .int .i64 b, .int .i64 imm] 23)
  go_enter Tryd.func3, Tryd.ntmps3
  go_wp2_with (first | (go_at_call 9; refine (alive_any _ HA.out).mono ?_; rintro e w1 ⟨rfl, hb1⟩; have P1 := Lib.hid (HB.out.below hb1 (by simp)); have q0 := P1.out.cell 0; have q1 := P1.out.cell 1; have q2 := P1.out.cell 2; have q3 := P1.out.cell 3; have q4 := P1.out.cell 4; simp at q0 q1 q2 q3 q4; have H1 := Lib.hid (HA.out.next hb1); have hz1 := hb1.size; simp at hz1; have B1 := Lib.hid (below_then b0.out (by simp) hb1); clear hb1) | (go_at_call 10; refine (c10.out _).mono ?_; rintro e w2 ⟨rfl, hb2⟩; have P2 := Lib.hid (P1.out.below hb2 (by omega)); have r0 := P2.out.cell 0; have r1 := P2.out.cell 1; have r2 := P2.out.cell 2; have r3 := P2.out.cell 3; have r4 := P2.out.cell 4; simp at r0 r1 r2 r3 r4; have H2 := Lib.hid (H1.out.next hb2); have hz2 := hb2.size; have B2 := Lib.hid (below_then B1.out (by omega) hb2); clear hb2) | (go_at_call 11; refine (c11.out _ H2.out).mono ?_; rintro e w3 ⟨rfl, hb3⟩; have P3 := Lib.hid (P2.out.below hb3 (by omega)); have H3 := Lib.hid (H2.out.next hb3); have hz3 := hb3.size; have B3 := Lib.hid (below_then B2.out (by omega) hb3); clear hb3))
  clear q0 q1 q2 q3 q4 r0 r1 r2 r3 r4
  have l0 := fun g => gw_cell (v := .int .i64 op) (P3.out.cell 0) g
  have l1 := fun g => gw_cell (v := .int .i64 d) (P3.out.cell 1) g
  have l2 := fun g => gw_cell (v := .int .i64 a) (P3.out.cell 2) g
  have l3 := fun g => gw_cell (v := .int .i64 b) (P3.out.cell 3) g
  have l4 := fun g => gw_cell (v := .int .i64 imm) (P3.out.cell 4) g
  have lw : Hid (∀ g : GW w3, LawW g.W) := fun g => H3.out.next g.h
  have ns := neq_str T
  refine wp_region_gw_lit (by kernel_rfl) (by kernel_rfl) ?_
  repeat (go_big_quiet_step ((first | (go_at_call 12; exact gw_call (c12.out _ (lw.out _))) | (go_at_call 13; exact gw_call (c13.out _ (lw.out _))) | (go_at_call 14; exact gw_call (c14.out _ (lw.out _))))))
  refine wpQuiet_nil ?_
  rintro _ ⟨g, rfl⟩
  have B4 := Lib.hid (below_then B3.out (by omega) g.h)
  have s0 := l0 g
  have s1 := l1 g
  have s2 := l2 g
  have s3 := l3 g
  have s4 := l4 g
  have hz4 := g.h.size
  clear l0 l1 l2 l3 l4 ns
  go_wp2_with (go_at_call 15; refine (c15.out _).mono ?_; rintro e w5 ⟨rfl, hb5⟩)
  go_ret
  exact ⟨by simp, below_then B4.out (by omega) hb5⟩
set_option maxHeartbeats 2000000 in
theorem isaWrites_false (op d a b imm : Int) (w : World) (H : LawW w) (hg : goodR op d a b imm = false) :
    Calls Tryd.prog 3 #[.agg #[.int .i64 op, .int .i64 d, .int .i64 a, .int .i64 b, .int .i64 imm]] w fun e w' => e = .returned (.bool true) ∧ Below w.heap.size w w' := by
  obtain ⟨T, hT⟩ : ∃ T, T = txtR op d a b imm := ⟨_, rfl⟩
  obtain ⟨E, hE⟩ : ∃ E, E = 0 := ⟨_, rfl⟩
  have c10 : Hid (∀ w, Calls Tryd.prog 10 #[.agg #[.int .i64 op, .int .i64 d, .int .i64 a, .int .i64 b, .int .i64 imm]] w fun e w' => e = .returned (.bool false) ∧ Below w.heap.size w w') := fun w => hg ▸ goodR_any op d a b imm w
  have c12 : Hid (∀ w, LawW w → Calls Tryd.prog 12 #[.agg #[.int .i64 op, .int .i64 d, .int .i64 a, .int .i64 b, .int .i64 imm]] w fun e w' => e = .returned (.bool false) ∧ Below w.heap.size w w') := fun w H => hg ▸ good_all op d a b imm w H
  have c11 : Hid (∀ w, LawW w → Calls Tryd.prog 11 #[.agg #[.int .i64 op, .int .i64 d, .int .i64 a, .int .i64 b, .int .i64 imm]] w fun e w' => e = .returned (.tuple #[.int .u32 E, .int .i64 1]) ∧ Below w.heap.size w w') := fun w H => by
    have h := enc_all op d a b imm w H
    rw [hg] at h
    rw [hE]
    exact h
  have c13 : Hid (∀ w, LawW w → Calls Tryd.prog 13 #[.agg #[.int .i64 op, .int .i64 d, .int .i64 a, .int .i64 b, .int .i64 imm]] w fun e w' => e = .returned (.string T) ∧ Below w.heap.size w w') := fun w H => hT ▸ text_all op d a b imm w H
  have c14 : Hid (∀ w, LawW w → Calls Tryd.prog 14 #[.agg #[.int .i64 op, .int .i64 d, .int .i64 a, .int .i64 b, .int .i64 imm]] w fun e w' => e = .returned (.string T) ∧ Below w.heap.size w w') := fun w H => hT ▸ textR_all op d a b imm w H
  subst hE
  clear hT
  have HA := Lib.hid (H.alloc (.cells #[.int .i64 op, .int .i64 d, .int .i64 a, .int .i64 b, .int .i64 imm] 23))
  have b0 := Lib.hid ((Below.refl w.heap.size w).alloc (Nat.le_refl _) (.cells #[.int .i64 op, .int .i64 d, .int .i64 a, .int .i64 b, .int .i64 imm] 23))
  have HB := Lib.hid (Blk.new w #[.int .i64 op, .int .i64 d, .int .i64 a, .int .i64 b, .int .i64 imm] 23)
  go_enter Tryd.func3, Tryd.ntmps3
  go_wp2_with (first | (go_at_call 9; refine (alive_any _ HA.out).mono ?_; rintro e w1 ⟨rfl, hb1⟩; have P1 := Lib.hid (HB.out.below hb1 (by simp)); have q0 := P1.out.cell 0; have q1 := P1.out.cell 1; have q2 := P1.out.cell 2; have q3 := P1.out.cell 3; have q4 := P1.out.cell 4; simp at q0 q1 q2 q3 q4; have H1 := Lib.hid (HA.out.next hb1); have hz1 := hb1.size; simp at hz1; have B1 := Lib.hid (below_then b0.out (by simp) hb1); clear hb1) | (go_at_call 10; refine (c10.out _).mono ?_; rintro e w2 ⟨rfl, hb2⟩; have P2 := Lib.hid (P1.out.below hb2 (by omega)); have r0 := P2.out.cell 0; have r1 := P2.out.cell 1; have r2 := P2.out.cell 2; have r3 := P2.out.cell 3; have r4 := P2.out.cell 4; simp at r0 r1 r2 r3 r4; have H2 := Lib.hid (H1.out.next hb2); have hz2 := hb2.size; have B2 := Lib.hid (below_then B1.out (by omega) hb2); clear hb2) | (go_at_call 11; refine (c11.out _ H2.out).mono ?_; rintro e w3 ⟨rfl, hb3⟩; have P3 := Lib.hid (P2.out.below hb3 (by omega)); have H3 := Lib.hid (H2.out.next hb3); have hz3 := hb3.size; have B3 := Lib.hid (below_then B2.out (by omega) hb3); clear hb3))
  clear q0 q1 q2 q3 q4 r0 r1 r2 r3 r4
  have l0 := fun g => gw_cell (v := .int .i64 op) (P3.out.cell 0) g
  have l1 := fun g => gw_cell (v := .int .i64 d) (P3.out.cell 1) g
  have l2 := fun g => gw_cell (v := .int .i64 a) (P3.out.cell 2) g
  have l3 := fun g => gw_cell (v := .int .i64 b) (P3.out.cell 3) g
  have l4 := fun g => gw_cell (v := .int .i64 imm) (P3.out.cell 4) g
  have lw : Hid (∀ g : GW w3, LawW g.W) := fun g => H3.out.next g.h
  have ns := neq_str T
  refine wp_region_gw_lit (by kernel_rfl) (by kernel_rfl) ?_
  repeat (go_big_quiet_step ((first | (go_at_call 12; exact gw_call (c12.out _ (lw.out _))) | (go_at_call 13; exact gw_call (c13.out _ (lw.out _))) | (go_at_call 14; exact gw_call (c14.out _ (lw.out _))))))
  refine wpQuiet_nil ?_
  rintro _ ⟨g, rfl⟩
  have B4 := Lib.hid (below_then B3.out (by omega) g.h)
  have s0 := l0 g
  have s1 := l1 g
  have s2 := l2 g
  have s3 := l3 g
  have s4 := l4 g
  have hz4 := g.h.size
  clear l0 l1 l2 l3 l4 ns
  go_wp2
  go_ret
  exact ⟨by simp, B4.out⟩
theorem isaWrites_any (op d a b imm : Int) (w : World) (H : LawW w) :
    Calls Tryd.prog 3 #[.agg #[.int .i64 op, .int .i64 d, .int .i64 a, .int .i64 b, .int .i64 imm]] w fun e w' => e = .returned (.bool true) ∧ Below w.heap.size w w' := by
  cases hg : goodR op d a b imm
  · exact isaWrites_false op d a b imm w H hg
  · exact isaWrites_true op d a b imm w H hg
end Go.Proofs.YtpbffmkdchiajaaDoor

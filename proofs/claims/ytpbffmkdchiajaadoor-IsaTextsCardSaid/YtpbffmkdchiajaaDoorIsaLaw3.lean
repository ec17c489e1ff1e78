/-
  The law IsaTexts: for every input the call returns true, and what was there before is as it was.
-/
import Derived.Test.YtpbffmkdchiajaaDoorPure5
namespace Go.Proofs.YtpbffmkdchiajaaDoor
open Go.RowKit
theorem five_iff (op1 d1 a1 b1 imm1 op2 d2 a2 b2 imm2 : Int) (h1 : goodR op1 d1 a1 b1 imm1 = true) (h2 : goodR op2 d2 a2 b2 imm2 = true) :
    ((txtR op1 d1 a1 b1 imm1).toList == (txtR op2 d2 a2 b2 imm2).toList) = decide (op1 = op2 ∧ d1 = d2 ∧ a1 = a2 ∧ b1 = b2 ∧ imm1 = imm2) := by
  by_cases h : op1 = op2 ∧ d1 = d2 ∧ a1 = a2 ∧ b1 = b2 ∧ imm1 = imm2
  · rw [decide_eq_true h]
    obtain ⟨rfl, rfl, rfl, rfl, rfl⟩ := h
    simp
  · rw [decide_eq_false h]
    rw [beq_eq_false_iff_ne]
    intro e
    rw [ByteArray.toList_eq, ByteArray.toList_eq] at e
    exact h (txt_inj _ _ _ _ _ _ _ _ _ _ h1 h2 (ba_ext e))
theorem eql_empty (T : ByteArray) (g : Bool) (h : T.toList.isEmpty = g) (W : World) : (binOp .eql 9 (.string T) (.string ⟨#[]⟩)).run Tryd.prog W = .ok (.bool g) W := by
  subst h
  simp [binOp, Op.stringOp]
set_option maxRecDepth 100000 in
set_option maxHeartbeats 4000000 in
theorem isaTexts_any (op1 d1 a1 b1 imm1 op2 d2 a2 b2 imm2 : Int) (w : World) (H : LawW w) :
    Calls Tryd.prog 4 #[.agg #[.int .i64 op1, .int .i64 d1, .int .i64 a1, .int .i64 b1, .int .i64 imm1], .agg #[.int .i64 op2, .int .i64 d2, .int .i64 a2, .int .i64 b2, .int .i64 imm2]] w fun e w' => e = .returned (.bool true) ∧ Below w.heap.size w w' := by
  have hE := txt_none op1 d1 a1 b1 imm1
  have hF := five_iff op1 d1 a1 b1 imm1 op2 d2 a2 b2 imm2
  obtain ⟨T1, hT1⟩ : ∃ T, T = txtR op1 d1 a1 b1 imm1 := ⟨_, rfl⟩
  obtain ⟨T2, hT2⟩ : ∃ T, T = txtR op2 d2 a2 b2 imm2 := ⟨_, rfl⟩
  have x1 : Hid (∀ w, LawW w → Calls Tryd.prog 13 #[.agg #[.int .i64 op1, .int .i64 d1, .int .i64 a1, .int .i64 b1, .int .i64 imm1]] w fun e w' => e = .returned (.string T1) ∧ Below w.heap.size w w') := fun w H => hT1 ▸ text_all op1 d1 a1 b1 imm1 w H
  have x2 : Hid (∀ w, LawW w → Calls Tryd.prog 13 #[.agg #[.int .i64 op2, .int .i64 d2, .int .i64 a2, .int .i64 b2, .int .i64 imm2]] w fun e w' => e = .returned (.string T2) ∧ Below w.heap.size w w') := fun w H => hT2 ▸ text_all op2 d2 a2 b2 imm2 w H
  rw [← hT1] at hE
  rw [← hT1, ← hT2] at hF
  clear hT1 hT2
  obtain ⟨g1, hg1⟩ : ∃ g, g = goodR op1 d1 a1 b1 imm1 := ⟨_, rfl⟩
  obtain ⟨g2, hg2⟩ : ∃ g, g = goodR op2 d2 a2 b2 imm2 := ⟨_, rfl⟩
  have y1 : Hid (∀ w, Calls Tryd.prog 10 #[.agg #[.int .i64 op1, .int .i64 d1, .int .i64 a1, .int .i64 b1, .int .i64 imm1]] w fun e w' => e = .returned (.bool g1) ∧ Below w.heap.size w w') := fun w => hg1 ▸ goodR_any op1 d1 a1 b1 imm1 w
  have y2 : Hid (∀ w, Calls Tryd.prog 10 #[.agg #[.int .i64 op2, .int .i64 d2, .int .i64 a2, .int .i64 b2, .int .i64 imm2]] w fun e w' => e = .returned (.bool g2) ∧ Below w.heap.size w w') := fun w => hg2 ▸ goodR_any op2 d2 a2 b2 imm2 w
  rw [← hg1] at hE hF
  rw [← hg2] at hF
  clear hg1 hg2
  have ei := fun W => eq_inst op1 d1 a1 b1 imm1 op2 d2 a2 b2 imm2 W
  obtain ⟨q, hq⟩ : ∃ q, q = decide (op1 = op2 ∧ d1 = d2 ∧ a1 = a2 ∧ b1 = b2 ∧ imm1 = imm2) := ⟨_, rfl⟩
  rw [← hq] at hF
  simp only [← hq] at ei
  clear hq
  have es := eql_empty T1 (!g1) hE
  have et : Hid (g1 = true → g2 = true → (T1.toList == T2.toList) = q) := hF
  clear hF
  have HA := Lib.hid ((H.alloc (.cells #[.int .i64 op1, .int .i64 d1, .int .i64 a1, .int .i64 b1, .int .i64 imm1] 23)).alloc (.cells #[.int .i64 op2, .int .i64 d2, .int .i64 a2, .int .i64 b2, .int .i64 imm2] 23))
  have b0 := Lib.hid (((Below.refl w.heap.size w).alloc (Nat.le_refl _) (.cells #[.int .i64 op1, .int .i64 d1, .int .i64 a1, .int .i64 b1, .int .i64 imm1] 23)).alloc (by simp) (.cells #[.int .i64 op2, .int .i64 d2, .int .i64 a2, .int .i64 b2, .int .i64 imm2] 23))
  have HB1 := Lib.hid ((Blk.new w #[.int .i64 op1, .int .i64 d1, .int .i64 a1, .int .i64 b1, .int .i64 imm1] 23).alloc (.cells #[.int .i64 op2, .int .i64 d2, .int .i64 a2, .int .i64 b2, .int .i64 imm2] 23))
  have HB2 : Hid (Blk ((w.alloc (.cells #[.int .i64 op1, .int .i64 d1, .int .i64 a1, .int .i64 b1, .int .i64 imm1] 23)).alloc (.cells #[.int .i64 op2, .int .i64 d2, .int .i64 a2, .int .i64 b2, .int .i64 imm2] 23)) (w.heap.size + 1) #[.int .i64 op2, .int .i64 d2, .int .i64 a2, .int .i64 b2, .int .i64 imm2] 23) := by
    have h := Blk.new (w.alloc (.cells #[.int .i64 op1, .int .i64 d1, .int .i64 a1, .int .i64 b1, .int .i64 imm1] 23)) #[.int .i64 op2, .int .i64 d2, .int .i64 a2, .int .i64 b2, .int .i64 imm2] 23
    have e : (w.alloc (.cells #[.int .i64 op1, .int .i64 d1, .int .i64 a1, .int .i64 b1, .int .i64 imm1] 23)).heap.size = w.heap.size + 1 := by simp
    rw [e] at h
    exact h
  go_enter Tryd.func4, Tryd.ntmps4
  go_wp2_with (first | (go_at_call 9; refine (alive_any _ HA.out).mono ?_; rintro e w1 ⟨rfl, hb1⟩; have P1 := Lib.hid (HB1.out.below hb1 (by simp; try omega)); have P2 := Lib.hid (HB2.out.below hb1 (by simp; try omega)); have H1 := Lib.hid (HA.out.next hb1); have hz1 := hb1.size; simp at hz1; have B1 := Lib.hid (below_then b0.out (by simp; try omega) hb1); clear hb1))
  have l0 := fun g => gw_cell (v := .int .i64 op1) (P1.out.cell 0) g
  have l1 := fun g => gw_cell (v := .int .i64 d1) (P1.out.cell 1) g
  have l2 := fun g => gw_cell (v := .int .i64 a1) (P1.out.cell 2) g
  have l3 := fun g => gw_cell (v := .int .i64 b1) (P1.out.cell 3) g
  have l4 := fun g => gw_cell (v := .int .i64 imm1) (P1.out.cell 4) g
  have m0 := fun g => gw_cell (v := .int .i64 op2) (P2.out.cell 0) g
  have m1 := fun g => gw_cell (v := .int .i64 d2) (P2.out.cell 1) g
  have m2 := fun g => gw_cell (v := .int .i64 a2) (P2.out.cell 2) g
  have m3 := fun g => gw_cell (v := .int .i64 b2) (P2.out.cell 3) g
  have m4 := fun g => gw_cell (v := .int .i64 imm2) (P2.out.cell 4) g
  have lw : Hid (∀ g : GW w1, LawW g.W) := fun g => H1.out.next g.h
  refine wp_region_gw_lit (by kernel_rfl) (by kernel_rfl) ?_
  repeat (go_big_quiet_step ((first | (go_at_call 13; first | with_reducible exact gw_call (x1.out _ (lw.out _)) | with_reducible exact gw_call (x2.out _ (lw.out _))))))
  refine wpQuiet_nil ?_
  rintro _ ⟨g, rfl⟩
  have B4 := Lib.hid (below_then B1.out (by omega) g.h)
  have hz4 := g.h.size
  have P3 := Lib.hid (P1.out.below g.h (by omega))
  have P4 := Lib.hid (P2.out.below g.h (by omega))
  have s0 := l0 g
  have s1 := l1 g
  have s2 := l2 g
  have s3 := l3 g
  have s4 := l4 g
  have t0 := m0 g
  have t1 := m1 g
  have t2 := m2 g
  have t3 := m3 g
  have t4 := m4 g
  clear l0 l1 l2 l3 l4 m0 m1 m2 m3 m4
  clear hz4 hz1 lw P1 P2 B1 H1 HA b0 HB1 HB2
  have e5 : ∀ b : Bool, (b == b) = true := by decide
  cases g1
  · go_wp2_with (go_at_call 10; (first | (with_reducible refine (y1.out _).mono ?_) | (with_reducible refine (y2.out _).mono ?_)); rintro e w2 ⟨rfl, hb2⟩; have P3 := Lib.hid (P3.out.below hb2 P3.out.lt); have P4 := Lib.hid (P4.out.below hb2 P4.out.lt); have B4 := Lib.hid (below_next B4.out hb2); clear hb2 s0 s1 s2 s3 s4 t0 t1 t2 t3 t4; have s0 := P3.out.cell 0; have s1 := P3.out.cell 1; have s2 := P3.out.cell 2; have s3 := P3.out.cell 3; have s4 := P3.out.cell 4; have t0 := P4.out.cell 0; have t1 := P4.out.cell 1; have t2 := P4.out.cell 2; have t3 := P4.out.cell 3; have t4 := P4.out.cell 4; simp at s0 s1 s2 s3 s4 t0 t1 t2 t3 t4)
    go_ret
    exact ⟨by simp, B4.out⟩
  · cases g2
    · go_wp2_with (go_at_call 10; (first | (with_reducible refine (y1.out _).mono ?_) | (with_reducible refine (y2.out _).mono ?_)); rintro e w2 ⟨rfl, hb2⟩; have P3 := Lib.hid (P3.out.below hb2 P3.out.lt); have P4 := Lib.hid (P4.out.below hb2 P4.out.lt); have B4 := Lib.hid (below_next B4.out hb2); clear hb2 s0 s1 s2 s3 s4 t0 t1 t2 t3 t4; have s0 := P3.out.cell 0; have s1 := P3.out.cell 1; have s2 := P3.out.cell 2; have s3 := P3.out.cell 3; have s4 := P3.out.cell 4; have t0 := P4.out.cell 0; have t1 := P4.out.cell 1; have t2 := P4.out.cell 2; have t3 := P4.out.cell 3; have t4 := P4.out.cell 4; simp at s0 s1 s2 s3 s4 t0 t1 t2 t3 t4)
      go_ret
      exact ⟨by simp, B4.out⟩
    · have et := et.out rfl rfl
      go_wp2_with (go_at_call 10; (first | (with_reducible refine (y1.out _).mono ?_) | (with_reducible refine (y2.out _).mono ?_)); rintro e w2 ⟨rfl, hb2⟩; have P3 := Lib.hid (P3.out.below hb2 P3.out.lt); have P4 := Lib.hid (P4.out.below hb2 P4.out.lt); have B4 := Lib.hid (below_next B4.out hb2); clear hb2 s0 s1 s2 s3 s4 t0 t1 t2 t3 t4; have s0 := P3.out.cell 0; have s1 := P3.out.cell 1; have s2 := P3.out.cell 2; have s3 := P3.out.cell 3; have s4 := P3.out.cell 4; have t0 := P4.out.cell 0; have t1 := P4.out.cell 1; have t2 := P4.out.cell 2; have t3 := P4.out.cell 3; have t4 := P4.out.cell 4; simp at s0 s1 s2 s3 s4 t0 t1 t2 t3 t4)
      go_ret
      exact ⟨by simp, B4.out⟩
end Go.Proofs.YtpbffmkdchiajaaDoor

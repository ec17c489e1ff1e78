/-
  The law IsaNear: for every input the call returns true, and what was there before is as it was.
-/
import Derived.Test.YtpbffmkdchiajaaDoorPure5
namespace Go.Proofs.YtpbffmkdchiajaaDoor
open Go.RowKit
theorem pow_bits : ∀ b : Nat, b < 32 → BitVec.ofInt 32 (IntKind.u32.wrap (2 ^ b)) ≠ 0#32 := by decide +kernel
theorem xor_near (x : Int) (b : Nat) (hb : b < 32) (h0 : 0 ≤ x) (h1 : x < 4294967296) :
    0 ≤ bits .xor .u32 x (IntKind.u32.wrap (2 ^ b)) ∧ bits .xor .u32 x (IntKind.u32.wrap (2 ^ b)) < 4294967296 ∧ bits .xor .u32 x (IntKind.u32.wrap (2 ^ b)) ≠ x := by
  have key : ∀ A B : BitVec 32, B ≠ 0#32 → A = BitVec.ofInt 32 x → 0 ≤ IntKind.u32.wrap ((A ^^^ B).toNat : Int) ∧ IntKind.u32.wrap ((A ^^^ B).toNat : Int) < 4294967296 ∧ IntKind.u32.wrap ((A ^^^ B).toNat : Int) ≠ x := by
    intro A B hB hA
    rw [IntKind.wrap_u32]
    have hlt := (A ^^^ B).isLt
    refine ⟨by omega, by omega, fun e => hB ?_⟩
    have hx : A.toNat = x.toNat := by rw [hA, BitVec.toNat_ofInt]; omega
    have e1 : A ^^^ B = A := BitVec.eq_of_toNat_eq (by omega)
    have e2 := congrArg (A ^^^ ·) e1
    simp only [← BitVec.xor_assoc, BitVec.xor_self, BitVec.zero_xor] at e2
    exact e2
  exact key _ _ (pow_bits b hb) rfl
/-- What Decode hands back, told with no table. -/
theorem dec_told (x : Int) (h0 : 0 ≤ x) (h1 : x < 4294967296) : ∃ op d a b imm er : Int,
    (∀ w, LawW w → Calls Tryd.prog 16 #[.int .u32 x] w fun e w' => e = .returned (.tuple #[.agg #[.int .i64 op, .int .i64 d, .int .i64 a, .int .i64 b, .int .i64 imm], .int .i64 er]) ∧ Below w.heap.size w w') ∧
    (er = 0 ∧ goodR op d a b imm = true ∧ encI flT wtT op d a b imm = x ∨ er = 4) := by
  cases hd : decF flT wtT x with
  | none =>
    refine ⟨0, 0, 0, 0, 0, 4, fun w H => ?_, .inr rfl⟩
    have h := dec_all x h0 h1 w H
    unfold decCells decErr at h
    rw [hd] at h
    exact h
  | some k =>
    refine ⟨k, (rd4 flT x k).d, (rd4 flT x k).a, (rd4 flT x k).b, (rd4 flT x k).i, 0, fun w H => ?_, .inl ⟨rfl, ?_⟩⟩
    · have h := dec_all x h0 h1 w H
      unfold decCells decErr at h
      rw [hd] at h
      exact h
    · have h := List.find?_some hd
      unfold decHit at h
      simp only [Bool.and_eq_true, decide_eq_true_eq] at h
      rw [goodI_eq] at h
      exact h
theorem near_told (x y : Int) (hne : y ≠ x) {op d a b imm op' d' a' b' imm' : Int} (h : encI flT wtT op d a b imm = x) (h' : encI flT wtT op' d' a' b' imm' = y) : decide (op = op' ∧ d = d' ∧ a = a' ∧ b = b' ∧ imm = imm') = false := by
  refine decide_eq_false ?_
  rintro ⟨rfl, rfl, rfl, rfl, rfl⟩
  exact hne (h'.symm.trans h)
theorem neq_false_run {op d a b imm op' d' a' b' imm' : Int} (h : decide (op = op' ∧ d = d' ∧ a = a' ∧ b = b' ∧ imm = imm') = false) (W : World) :
    (binOp .neq 23 (.agg #[.int .i64 op, .int .i64 d, .int .i64 a, .int .i64 b, .int .i64 imm]) (.agg #[.int .i64 op', .int .i64 d', .int .i64 a', .int .i64 b', .int .i64 imm'])).run Tryd.prog W = .ok (.bool true) W := by
  rw [neq_inst, h]; rfl
theorem near_out (x bit : Int) (w : World) (H : LawW w) (h : bit < 0 ∨ 31 < bit) :
    Calls Tryd.prog 5 #[.int .u32 x, .int .i64 bit] w fun e w' => e = .returned (.bool true) ∧ Below w.heap.size w w' := by
  rcases h with h | h
  · have e1 : decide (bit < 0) = true := decide_eq_true h
    go_enter Tryd.func5, Tryd.ntmps5
    go_wp2_with (go_at_call 9; refine (alive_any _ H).mono ?_; rintro e w1 ⟨rfl, hb1⟩)
    go_ret
    exact ⟨by simp, hb1⟩
  · have e1 : decide (bit < 0) = false := decide_eq_false (by omega)
    have e2 : decide (31 < bit) = true := decide_eq_true h
    go_enter Tryd.func5, Tryd.ntmps5
    go_wp2_with (go_at_call 9; refine (alive_any _ H).mono ?_; rintro e w1 ⟨rfl, hb1⟩)
    go_ret
    exact ⟨by simp, hb1⟩
set_option maxHeartbeats 2000000 in
theorem near_in (x bit : Int) (w : World) (H : LawW w) (h0 : 0 ≤ x) (h1 : x < 4294967296) (hb0 : 0 ≤ bit) (hb1 : bit ≤ 31) :
    Calls Tryd.prog 5 #[.int .u32 x, .int .i64 bit] w fun e w' => e = .returned (.bool true) ∧ Below w.heap.size w w' := by
  have hx := xor_near x bit.toNat (by omega) h0 h1
  obtain ⟨y, hy⟩ : ∃ y, bits .xor .u32 x (IntKind.u32.wrap (2 ^ bit.toNat)) = y := ⟨_, rfl⟩
  rw [hy] at hx
  obtain ⟨op, d, a, b, imm, er, c1, f1⟩ := dec_told x h0 h1
  obtain ⟨op', d', a', b', imm', er', c2, f2⟩ := dec_told y hx.1 hx.2.1
  have hne := hx.2.2
  replace c1 := Lib.hid c1
  replace c2 := Lib.hid c2
  have hw : IntKind.u64.wrap bit = bit := by rw [IntKind.wrap_u64]; omega
  have hy : Hid (bits BinOp.xor IntKind.u32 x (2 ^ min (IntKind.u64.wrap bit).toNat 32 % 4294967296) = y) := by
    rw [hw, Nat.min_eq_left (by omega), ← IntKind.wrap_u32]
    exact hy
  clear hw
  clear hx
  have e1 : decide (bit < 0) = false := decide_eq_false (by omega)
  have e2 : decide (31 < bit) = false := decide_eq_false (by omega)
  have hE1 := txt_none op d a b imm
  have hE2 := txt_none op' d' a' b' imm'
  obtain ⟨T1, hT1⟩ : ∃ T, T = txtR op d a b imm := ⟨_, rfl⟩
  obtain ⟨T2, hT2⟩ : ∃ T, T = txtR op' d' a' b' imm' := ⟨_, rfl⟩
  have x1 : Hid (∀ w, LawW w → Calls Tryd.prog 13 #[.agg #[.int .i64 op, .int .i64 d, .int .i64 a, .int .i64 b, .int .i64 imm]] w fun e w' => e = .returned (.string T1) ∧ Below w.heap.size w w') := fun w H => hT1 ▸ text_all op d a b imm w H
  have x2 : Hid (∀ w, LawW w → Calls Tryd.prog 13 #[.agg #[.int .i64 op', .int .i64 d', .int .i64 a', .int .i64 b', .int .i64 imm']] w fun e w' => e = .returned (.string T2) ∧ Below w.heap.size w w') := fun w H => hT2 ▸ text_all op' d' a' b' imm' w H
  rw [← hT1] at hE1
  rw [← hT2] at hE2
  clear hT1 hT2
  have HS := Lib.hid H
  rcases f1 with ⟨rfl, g1, k1⟩ | rfl
  · rw [g1] at hE1
    rcases f2 with ⟨rfl, g2, k2⟩ | rfl
    · rw [g2] at hE2
      have nq := neq_false_run (near_told x y hne k1 k2)
      clear g1 g2 k1 k2 hne H h0 h1 hb1
      go_enter Tryd.func5, Tryd.ntmps5
      go_wp2_with (first | (go_at_call 9; refine (alive_any _ HS.out).mono ?_; rintro e w1 ⟨rfl, hb1⟩; have H1 := Lib.hid (HS.out.next hb1); have B1 := Lib.hid hb1; clear hb1) | (go_at_call 16; rw [hy.out]; with_reducible refine (c2.out _ (H2.out.alloc _)).mono ?_; rintro e w3 ⟨rfl, hb3⟩; have P5 := Lib.hid (((Blk.new w2 #[.int .i64 op, .int .i64 d, .int .i64 a, .int .i64 b, .int .i64 imm] 23).below hb3 (Blk.new w2 #[.int .i64 op, .int .i64 d, .int .i64 a, .int .i64 b, .int .i64 imm] 23).lt).alloc (.cells #[.int .i64 op', .int .i64 d', .int .i64 a', .int .i64 b', .int .i64 imm'] 23)); have P7 := Lib.hid (Blk.new w3 #[.int .i64 op', .int .i64 d', .int .i64 a', .int .i64 b', .int .i64 imm'] 23); have H4 := Lib.hid (((H2.out.alloc (.cells #[.int .i64 op, .int .i64 d, .int .i64 a, .int .i64 b, .int .i64 imm] 23)).next hb3).alloc (.cells #[.int .i64 op', .int .i64 d', .int .i64 a', .int .i64 b', .int .i64 imm'] 23)); have B4 := Lib.hid (below_next (below_next (below_next B2.out ((Below.refl _ _).alloc (Nat.le_refl _) (.cells #[.int .i64 op, .int .i64 d, .int .i64 a, .int .i64 b, .int .i64 imm] 23))) hb3) ((Below.refl _ _).alloc (Nat.le_refl _) (.cells #[.int .i64 op', .int .i64 d', .int .i64 a', .int .i64 b', .int .i64 imm'] 23))); clear hb3; have s0 := P5.out.cell 0; have s1 := P5.out.cell 1; have s2 := P5.out.cell 2; have s3 := P5.out.cell 3; have s4 := P5.out.cell 4; have t0 := P7.out.cell 0; have t1 := P7.out.cell 1; have t2 := P7.out.cell 2; have t3 := P7.out.cell 3; have t4 := P7.out.cell 4; simp at s0 s1 s2 s3 s4 t0 t1 t2 t3 t4) | (go_at_call 16; with_reducible refine (c1.out _ H1.out).mono ?_; rintro e w2 ⟨rfl, hb2⟩; have H2 := Lib.hid (H1.out.next hb2); have B2 := Lib.hid (below_next B1.out hb2); clear hb2) | (go_at_call 13; (first | (with_reducible refine (x1.out _ H4.out).mono ?_) | (with_reducible refine (x2.out _ H4.out).mono ?_)); rintro e w4 ⟨rfl, hb4⟩; have P5 := Lib.hid (P5.out.below hb4 P5.out.lt); have P7 := Lib.hid (P7.out.below hb4 P7.out.lt); have H4 := Lib.hid (H4.out.next hb4); have B4 := Lib.hid (below_next B4.out hb4); clear hb4 s0 s1 s2 s3 s4 t0 t1 t2 t3 t4; have s0 := P5.out.cell 0; have s1 := P5.out.cell 1; have s2 := P5.out.cell 2; have s3 := P5.out.cell 3; have s4 := P5.out.cell 4; have t0 := P7.out.cell 0; have t1 := P7.out.cell 1; have t2 := P7.out.cell 2; have t3 := P7.out.cell 3; have t4 := P7.out.cell 4; simp at s0 s1 s2 s3 s4 t0 t1 t2 t3 t4))
      go_ret
      exact ⟨by simp, B4.out⟩
    · clear g1 k1 hne H h0 h1 hb1
      go_enter Tryd.func5, Tryd.ntmps5
      go_wp2_with (first | (go_at_call 9; refine (alive_any _ HS.out).mono ?_; rintro e w1 ⟨rfl, hb1⟩; have H1 := Lib.hid (HS.out.next hb1); have B1 := Lib.hid hb1; clear hb1) | (go_at_call 16; rw [hy.out]; with_reducible refine (c2.out _ (H2.out.alloc _)).mono ?_; rintro e w3 ⟨rfl, hb3⟩; have P5 := Lib.hid (((Blk.new w2 #[.int .i64 op, .int .i64 d, .int .i64 a, .int .i64 b, .int .i64 imm] 23).below hb3 (Blk.new w2 #[.int .i64 op, .int .i64 d, .int .i64 a, .int .i64 b, .int .i64 imm] 23).lt).alloc (.cells #[.int .i64 op', .int .i64 d', .int .i64 a', .int .i64 b', .int .i64 imm'] 23)); have P7 := Lib.hid (Blk.new w3 #[.int .i64 op', .int .i64 d', .int .i64 a', .int .i64 b', .int .i64 imm'] 23); have H4 := Lib.hid (((H2.out.alloc (.cells #[.int .i64 op, .int .i64 d, .int .i64 a, .int .i64 b, .int .i64 imm] 23)).next hb3).alloc (.cells #[.int .i64 op', .int .i64 d', .int .i64 a', .int .i64 b', .int .i64 imm'] 23)); have B4 := Lib.hid (below_next (below_next (below_next B2.out ((Below.refl _ _).alloc (Nat.le_refl _) (.cells #[.int .i64 op, .int .i64 d, .int .i64 a, .int .i64 b, .int .i64 imm] 23))) hb3) ((Below.refl _ _).alloc (Nat.le_refl _) (.cells #[.int .i64 op', .int .i64 d', .int .i64 a', .int .i64 b', .int .i64 imm'] 23))); clear hb3; have s0 := P5.out.cell 0; have s1 := P5.out.cell 1; have s2 := P5.out.cell 2; have s3 := P5.out.cell 3; have s4 := P5.out.cell 4; have t0 := P7.out.cell 0; have t1 := P7.out.cell 1; have t2 := P7.out.cell 2; have t3 := P7.out.cell 3; have t4 := P7.out.cell 4; simp at s0 s1 s2 s3 s4 t0 t1 t2 t3 t4) | (go_at_call 16; with_reducible refine (c1.out _ H1.out).mono ?_; rintro e w2 ⟨rfl, hb2⟩; have H2 := Lib.hid (H1.out.next hb2); have B2 := Lib.hid (below_next B1.out hb2); clear hb2) | (go_at_call 13; (first | (with_reducible refine (x1.out _ H4.out).mono ?_) | (with_reducible refine (x2.out _ H4.out).mono ?_)); rintro e w4 ⟨rfl, hb4⟩; have P5 := Lib.hid (P5.out.below hb4 P5.out.lt); have P7 := Lib.hid (P7.out.below hb4 P7.out.lt); have H4 := Lib.hid (H4.out.next hb4); have B4 := Lib.hid (below_next B4.out hb4); clear hb4 s0 s1 s2 s3 s4 t0 t1 t2 t3 t4; have s0 := P5.out.cell 0; have s1 := P5.out.cell 1; have s2 := P5.out.cell 2; have s3 := P5.out.cell 3; have s4 := P5.out.cell 4; have t0 := P7.out.cell 0; have t1 := P7.out.cell 1; have t2 := P7.out.cell 2; have t3 := P7.out.cell 3; have t4 := P7.out.cell 4; simp at s0 s1 s2 s3 s4 t0 t1 t2 t3 t4))
      go_ret
      exact ⟨by simp, B4.out⟩
  · rcases f2 with ⟨rfl, g2, k2⟩ | rfl
    · rw [g2] at hE2
      clear g2 k2 hne H h0 h1 hb1
      go_enter Tryd.func5, Tryd.ntmps5
      go_wp2_with (first | (go_at_call 9; refine (alive_any _ HS.out).mono ?_; rintro e w1 ⟨rfl, hb1⟩; have H1 := Lib.hid (HS.out.next hb1); have B1 := Lib.hid hb1; clear hb1) | (go_at_call 16; rw [hy.out]; with_reducible refine (c2.out _ (H2.out.alloc _)).mono ?_; rintro e w3 ⟨rfl, hb3⟩; have P5 := Lib.hid (((Blk.new w2 #[.int .i64 op, .int .i64 d, .int .i64 a, .int .i64 b, .int .i64 imm] 23).below hb3 (Blk.new w2 #[.int .i64 op, .int .i64 d, .int .i64 a, .int .i64 b, .int .i64 imm] 23).lt).alloc (.cells #[.int .i64 op', .int .i64 d', .int .i64 a', .int .i64 b', .int .i64 imm'] 23)); have P7 := Lib.hid (Blk.new w3 #[.int .i64 op', .int .i64 d', .int .i64 a', .int .i64 b', .int .i64 imm'] 23); have H4 := Lib.hid (((H2.out.alloc (.cells #[.int .i64 op, .int .i64 d, .int .i64 a, .int .i64 b, .int .i64 imm] 23)).next hb3).alloc (.cells #[.int .i64 op', .int .i64 d', .int .i64 a', .int .i64 b', .int .i64 imm'] 23)); have B4 := Lib.hid (below_next (below_next (below_next B2.out ((Below.refl _ _).alloc (Nat.le_refl _) (.cells #[.int .i64 op, .int .i64 d, .int .i64 a, .int .i64 b, .int .i64 imm] 23))) hb3) ((Below.refl _ _).alloc (Nat.le_refl _) (.cells #[.int .i64 op', .int .i64 d', .int .i64 a', .int .i64 b', .int .i64 imm'] 23))); clear hb3; have s0 := P5.out.cell 0; have s1 := P5.out.cell 1; have s2 := P5.out.cell 2; have s3 := P5.out.cell 3; have s4 := P5.out.cell 4; have t0 := P7.out.cell 0; have t1 := P7.out.cell 1; have t2 := P7.out.cell 2; have t3 := P7.out.cell 3; have t4 := P7.out.cell 4; simp at s0 s1 s2 s3 s4 t0 t1 t2 t3 t4) | (go_at_call 16; with_reducible refine (c1.out _ H1.out).mono ?_; rintro e w2 ⟨rfl, hb2⟩; have H2 := Lib.hid (H1.out.next hb2); have B2 := Lib.hid (below_next B1.out hb2); clear hb2) | (go_at_call 13; (first | (with_reducible refine (x1.out _ H4.out).mono ?_) | (with_reducible refine (x2.out _ H4.out).mono ?_)); rintro e w4 ⟨rfl, hb4⟩; have P5 := Lib.hid (P5.out.below hb4 P5.out.lt); have P7 := Lib.hid (P7.out.below hb4 P7.out.lt); have H4 := Lib.hid (H4.out.next hb4); have B4 := Lib.hid (below_next B4.out hb4); clear hb4 s0 s1 s2 s3 s4 t0 t1 t2 t3 t4; have s0 := P5.out.cell 0; have s1 := P5.out.cell 1; have s2 := P5.out.cell 2; have s3 := P5.out.cell 3; have s4 := P5.out.cell 4; have t0 := P7.out.cell 0; have t1 := P7.out.cell 1; have t2 := P7.out.cell 2; have t3 := P7.out.cell 3; have t4 := P7.out.cell 4; simp at s0 s1 s2 s3 s4 t0 t1 t2 t3 t4))
      go_ret
      exact ⟨by simp, B4.out⟩
    · clear hne H h0 h1 hb1
      go_enter Tryd.func5, Tryd.ntmps5
      go_wp2_with (first | (go_at_call 9; refine (alive_any _ HS.out).mono ?_; rintro e w1 ⟨rfl, hb1⟩; have H1 := Lib.hid (HS.out.next hb1); have B1 := Lib.hid hb1; clear hb1) | (go_at_call 16; rw [hy.out]; with_reducible refine (c2.out _ (H2.out.alloc _)).mono ?_; rintro e w3 ⟨rfl, hb3⟩; have P5 := Lib.hid (((Blk.new w2 #[.int .i64 op, .int .i64 d, .int .i64 a, .int .i64 b, .int .i64 imm] 23).below hb3 (Blk.new w2 #[.int .i64 op, .int .i64 d, .int .i64 a, .int .i64 b, .int .i64 imm] 23).lt).alloc (.cells #[.int .i64 op', .int .i64 d', .int .i64 a', .int .i64 b', .int .i64 imm'] 23)); have P7 := Lib.hid (Blk.new w3 #[.int .i64 op', .int .i64 d', .int .i64 a', .int .i64 b', .int .i64 imm'] 23); have H4 := Lib.hid (((H2.out.alloc (.cells #[.int .i64 op, .int .i64 d, .int .i64 a, .int .i64 b, .int .i64 imm] 23)).next hb3).alloc (.cells #[.int .i64 op', .int .i64 d', .int .i64 a', .int .i64 b', .int .i64 imm'] 23)); have B4 := Lib.hid (below_next (below_next (below_next B2.out ((Below.refl _ _).alloc (Nat.le_refl _) (.cells #[.int .i64 op, .int .i64 d, .int .i64 a, .int .i64 b, .int .i64 imm] 23))) hb3) ((Below.refl _ _).alloc (Nat.le_refl _) (.cells #[.int .i64 op', .int .i64 d', .int .i64 a', .int .i64 b', .int .i64 imm'] 23))); clear hb3; have s0 := P5.out.cell 0; have s1 := P5.out.cell 1; have s2 := P5.out.cell 2; have s3 := P5.out.cell 3; have s4 := P5.out.cell 4; have t0 := P7.out.cell 0; have t1 := P7.out.cell 1; have t2 := P7.out.cell 2; have t3 := P7.out.cell 3; have t4 := P7.out.cell 4; simp at s0 s1 s2 s3 s4 t0 t1 t2 t3 t4) | (go_at_call 16; with_reducible refine (c1.out _ H1.out).mono ?_; rintro e w2 ⟨rfl, hb2⟩; have H2 := Lib.hid (H1.out.next hb2); have B2 := Lib.hid (below_next B1.out hb2); clear hb2) | (go_at_call 13; (first | (with_reducible refine (x1.out _ H4.out).mono ?_) | (with_reducible refine (x2.out _ H4.out).mono ?_)); rintro e w4 ⟨rfl, hb4⟩; have P5 := Lib.hid (P5.out.below hb4 P5.out.lt); have P7 := Lib.hid (P7.out.below hb4 P7.out.lt); have H4 := Lib.hid (H4.out.next hb4); have B4 := Lib.hid (below_next B4.out hb4); clear hb4 s0 s1 s2 s3 s4 t0 t1 t2 t3 t4; have s0 := P5.out.cell 0; have s1 := P5.out.cell 1; have s2 := P5.out.cell 2; have s3 := P5.out.cell 3; have s4 := P5.out.cell 4; have t0 := P7.out.cell 0; have t1 := P7.out.cell 1; have t2 := P7.out.cell 2; have t3 := P7.out.cell 3; have t4 := P7.out.cell 4; simp at s0 s1 s2 s3 s4 t0 t1 t2 t3 t4))
      go_ret
      exact ⟨by simp, B4.out⟩
end Go.Proofs.YtpbffmkdchiajaaDoor

/-
  The walks of the reference of layer 2: Text.
-/
import Derived.Test.YtpbffmkdchiajaaDoorRef3
import Derived.Test.YtpbffmkdchiajaaDoorIsa7
namespace Go.Proofs.YtpbffmkdchiajaaDoor
open Go.RowKit Go.Lib
set_option maxRecDepth 100000 in
set_option maxHeartbeats 2000000 in
theorem textR_bad (op d a b imm : Int) (w : World) (hg : goodR op d a b imm = false) :
    Calls Tryd.prog 14 #[.agg #[.int .i64 op, .int .i64 d, .int .i64 a, .int .i64 b, .int .i64 imm]] w fun e w' => e = .returned (.string ⟨#[]⟩) ∧ Below w.heap.size w w' := by
  have b0 : Below w.heap.size w (w.alloc (.cells #[.int .i64 op, .int .i64 d, .int .i64 a, .int .i64 b, .int .i64 imm] 23)) := (Below.refl _ w).alloc (Nat.le_refl _) _
  go_enter Tryd.func14, Tryd.ntmps14
  go_wp2_with (go_at_call 10; refine (goodR_any op d a b imm _).mono ?_; rintro e w' ⟨rfl, hb⟩)
  go_ret
  exact ⟨rfl, below_then b0 (by simp) hb⟩
theorem ix6_0 (w : World) : (Instr.index 100 (.agg #[.string ⟨#[98, 103, 101]⟩, .string ⟨#[98, 108, 101]⟩, .string ⟨#[98, 110, 101]⟩, .string ⟨#[98, 108, 116]⟩, .string ⟨#[98, 103, 116]⟩, .string ⟨#[98, 101, 113]⟩]) (.int .i64 0)).run Tryd.prog w = .ok (.string ⟨#[98, 103, 101]⟩) w := by kernel_rfl
theorem ix6_1 (w : World) : (Instr.index 100 (.agg #[.string ⟨#[98, 103, 101]⟩, .string ⟨#[98, 108, 101]⟩, .string ⟨#[98, 110, 101]⟩, .string ⟨#[98, 108, 116]⟩, .string ⟨#[98, 103, 116]⟩, .string ⟨#[98, 101, 113]⟩]) (.int .i64 1)).run Tryd.prog w = .ok (.string ⟨#[98, 108, 101]⟩) w := by kernel_rfl
theorem ix6_2 (w : World) : (Instr.index 100 (.agg #[.string ⟨#[98, 103, 101]⟩, .string ⟨#[98, 108, 101]⟩, .string ⟨#[98, 110, 101]⟩, .string ⟨#[98, 108, 116]⟩, .string ⟨#[98, 103, 116]⟩, .string ⟨#[98, 101, 113]⟩]) (.int .i64 2)).run Tryd.prog w = .ok (.string ⟨#[98, 110, 101]⟩) w := by kernel_rfl
theorem ix6_3 (w : World) : (Instr.index 100 (.agg #[.string ⟨#[98, 103, 101]⟩, .string ⟨#[98, 108, 101]⟩, .string ⟨#[98, 110, 101]⟩, .string ⟨#[98, 108, 116]⟩, .string ⟨#[98, 103, 116]⟩, .string ⟨#[98, 101, 113]⟩]) (.int .i64 3)).run Tryd.prog w = .ok (.string ⟨#[98, 108, 116]⟩) w := by kernel_rfl
theorem ix6_4 (w : World) : (Instr.index 100 (.agg #[.string ⟨#[98, 103, 101]⟩, .string ⟨#[98, 108, 101]⟩, .string ⟨#[98, 110, 101]⟩, .string ⟨#[98, 108, 116]⟩, .string ⟨#[98, 103, 116]⟩, .string ⟨#[98, 101, 113]⟩]) (.int .i64 4)).run Tryd.prog w = .ok (.string ⟨#[98, 103, 116]⟩) w := by kernel_rfl
theorem ix6_5 (w : World) : (Instr.index 100 (.agg #[.string ⟨#[98, 103, 101]⟩, .string ⟨#[98, 108, 101]⟩, .string ⟨#[98, 110, 101]⟩, .string ⟨#[98, 108, 116]⟩, .string ⟨#[98, 103, 116]⟩, .string ⟨#[98, 101, 113]⟩]) (.int .i64 5)).run Tryd.prog w = .ok (.string ⟨#[98, 101, 113]⟩) w := by kernel_rfl
theorem ixi_0 (x0 x1 x2 : Int) (w : World) : (Instr.index 101 (.agg #[.int .i64 x0, .int .i64 x1, .int .i64 x2]) (.int .i64 0)).run Tryd.prog w = .ok (.int .i64 x0) w := by kernel_rfl
theorem ixi_1 (x0 x1 x2 : Int) (w : World) : (Instr.index 101 (.agg #[.int .i64 x0, .int .i64 x1, .int .i64 x2]) (.int .i64 1)).run Tryd.prog w = .ok (.int .i64 x1) w := by kernel_rfl
theorem ixi_2 (x0 x1 x2 : Int) (w : World) : (Instr.index 101 (.agg #[.int .i64 x0, .int .i64 x1, .int .i64 x2]) (.int .i64 2)).run Tryd.prog w = .ok (.int .i64 x2) w := by kernel_rfl
theorem ixb_0 (x0 x1 x2 : Bool) (w : World) : (Instr.index 102 (.agg #[.bool x0, .bool x1, .bool x2]) (.int .i64 0)).run Tryd.prog w = .ok (.bool x0) w := by kernel_rfl
theorem ixb_1 (x0 x1 x2 : Bool) (w : World) : (Instr.index 102 (.agg #[.bool x0, .bool x1, .bool x2]) (.int .i64 1)).run Tryd.prog w = .ok (.bool x1) w := by kernel_rfl
theorem ixb_2 (x0 x1 x2 : Bool) (w : World) : (Instr.index 102 (.agg #[.bool x0, .bool x1, .bool x2]) (.int .i64 2)).run Tryd.prog w = .ok (.bool x2) w := by kernel_rfl
/-- the two calls at the head: Good, Of; what is known behind them -/
theorem headR {w w1 w2 : World} {op d a b imm : Int} (hb1 : Below (w.alloc (.cells #[.int .i64 op, .int .i64 d, .int .i64 a, .int .i64 b, .int .i64 imm] 23)).heap.size (w.alloc (.cells #[.int .i64 op, .int .i64 d, .int .i64 a, .int .i64 b, .int .i64 imm] 23)) w1) (hb2 : Below w1.heap.size w1 w2) :
    Below w.heap.size w w2 ∧ w.heap.size < w2.heap.size ∧ Hid (Blk w2 w.heap.size #[.int .i64 op, .int .i64 d, .int .i64 a, .int .i64 b, .int .i64 imm] 23) ∧ w2.cell? ⟨w.heap.size, 0, none⟩ = some (.int .i64 op) ∧ w2.cell? ⟨w.heap.size, 1, none⟩ = some (.int .i64 d) ∧ w2.cell? ⟨w.heap.size, 2, none⟩ = some (.int .i64 a) ∧ w2.cell? ⟨w.heap.size, 3, none⟩ = some (.int .i64 b) ∧ w2.cell? ⟨w.heap.size, 4, none⟩ = some (.int .i64 imm) := by
  have b0 : Below w.heap.size w (w.alloc (.cells #[.int .i64 op, .int .i64 d, .int .i64 a, .int .i64 b, .int .i64 imm] 23)) := (Below.refl _ w).alloc (Nat.le_refl _) _
  have z1 := hb1.size
  have z2 := hb2.size
  simp at z1
  have P := ((Blk.new w #[.int .i64 op, .int .i64 d, .int .i64 a, .int .i64 b, .int .i64 imm] 23).below hb1 (by simp)).below hb2 (by omega)
  exact ⟨below_then (below_then b0 (by simp) hb1) (by omega) hb2, by omega, P, P.cell 0, P.cell 1, P.cell 2, P.cell 3, P.cell 4⟩
theorem oneR {w w1 : World} {op d a b imm : Int} (hb1 : Below (w.alloc (.cells #[.int .i64 op, .int .i64 d, .int .i64 a, .int .i64 b, .int .i64 imm] 23)).heap.size (w.alloc (.cells #[.int .i64 op, .int .i64 d, .int .i64 a, .int .i64 b, .int .i64 imm] 23)) w1) : w1.cell? ⟨w.heap.size, 0, none⟩ = some (.int .i64 op) := by
  exact ((Blk.new w #[.int .i64 op, .int .i64 d, .int .i64 a, .int .i64 b, .int .i64 imm] 23).below hb1 (by simp)).cell 0
set_option maxRecDepth 100000 in
set_option maxHeartbeats 2000000 in
theorem textR_bc (d a b imm : Int) (w : World) (T : Tabs w) (hi : Hid (I64 imm)) (hg : goodR 10 d a b imm = true) (a0 : 0 ≤ a) (a1 : a ≤ 2) (hd : d = 4 ∨ d = 12) :
    Calls Tryd.prog 14 #[.agg #[.int .i64 10, .int .i64 d, .int .i64 a, .int .i64 b, .int .i64 imm]] w fun e w' => e = .returned (.string (condB d a ++ ⟨#[32]⟩ ++ itoaB imm)) ∧ Below w.heap.size w w' := by
  have z1 := condB_size d a
  have z2 := itoaB_size imm hi.out
  obtain rfl | rfl | rfl : a = 0 ∨ a = 1 ∨ a = 2 := by omega
  all_goals
    rcases hd with rfl | rfl
    all_goals
      have i0 := ix6_0
      have i1 := ix6_1
      have i2 := ix6_2
      have i3 := ix6_3
      have i4 := ix6_4
      have i5 := ix6_5
      go_enter Tryd.func14, Tryd.ntmps14
      go_wp2_with (first | (go_at_call 10; refine (goodR_any 10 _ _ b imm _).mono ?_; rintro e w1 ⟨rfl, hb1⟩; have p0 := oneR hb1) | (go_at_call 48; refine (of_lit _ _).mono ?_; rintro e w2 ⟨rfl, hb2⟩; obtain ⟨hB, hlt, HP, q0, q1, q2, q3, q4⟩ := headR hb1 hb2) | (go_at_call 56; refine (itoa_any _ hi.out.1 hi.out.2 _ ((T.below hB T.nb).below ((Below.refl _ _).alloc (Nat.le_refl _) _) (by have := T.nb; omega))).mono ?_; rintro e w3 ⟨rfl, hb3⟩))
      go_ret
      exact ⟨rfl, below_then (hB.alloc (by omega) _) (by simp; omega) hb3⟩
def segB (f : Bool) (n : Int) : ByteArray := if f then ⟨#[44, 32, 114]⟩ ++ itoaB n else ⟨#[]⟩
/-- what the loop has collected behind k rounds -/
def accB (h : HasF) (d a b : Int) (k : Nat) : ByteArray := if k = 0 then ⟨#[]⟩ else if k = 1 then ⟨#[]⟩ ++ segB h.d d else if k = 2 then ⟨#[]⟩ ++ segB h.d d ++ segB h.a a else ⟨#[]⟩ ++ segB h.d d ++ segB h.a a ++ segB h.b b
def accI (h : HasF) (d a b imm : Int) : ByteArray := if 0 < h.i then accB h d a b 3 ++ ⟨#[44, 32]⟩ ++ itoaB imm else accB h d a b 3
theorem app_empty (x : ByteArray) : x ++ ⟨#[]⟩ = x := by
  cases x; simp [ByteArray.ext_iff]
theorem segB_size (f : Bool) (n : Int) (hn : I64 n) : (segB f n).size ≤ 24 := by
  have := itoaB_size n hn
  have h1 : (⟨#[44, 32, 114]⟩ : ByteArray).size = 3 := rfl
  have h0 : (⟨#[]⟩ : ByteArray).size = 0 := rfl
  unfold segB
  split
  · simp only [ByteArray.size_append]; omega
  · omega
theorem accB_size (h : HasF) (d a b : Int) (k : Nat) (hd : I64 d) (ha : I64 a) (hb : I64 b) : (accB h d a b k).size ≤ 72 := by
  have h0 : (⟨#[]⟩ : ByteArray).size = 0 := rfl
  have := segB_size h.d d hd
  have := segB_size h.a a ha
  have := segB_size h.b b hb
  unfold accB
  repeat' split
  all_goals first | omega | (simp only [ByteArray.size_append]; omega)
def textF (nm x : ByteArray) : ByteArray := if x.size = 0 then nm else nm ++ x.extract 1 x.size
theorem isEmpty_size (x : ByteArray) : x.toList.isEmpty = decide (x.size = 0) := by
  rw [ByteArray.toList_eq]
  cases x with
  | mk d =>
    show d.toList.isEmpty = decide (d.size = 0)
    cases d with
    | mk l => cases l <;> simp
structure TRRel (W1 : World) (h : HasF) (d a b : Int) (k : Nat) (v : Value) (wr : World) : Prop where
  below : Below W1.heap.size W1 wr
  val : v = .string (accB h d a b k)
set_option maxRecDepth 100000 in
set_option maxHeartbeats 4000000 in
theorem textR_main (op d a b imm : Int) (w : World) (T : Tabs w) (hD : Hid (I64 d)) (hA : Hid (I64 a)) (hBb : Hid (I64 b)) (hI : Hid (I64 imm)) (hnm : Hid ((ofF op).nm.size ≤ 100)) (hg : goodR op d a b imm = true) (h10 : (op == 10) = false) :
    Calls Tryd.prog 14 #[.agg #[.int .i64 op, .int .i64 d, .int .i64 a, .int .i64 b, .int .i64 imm]] w fun e w' => e = .returned (.string (textF (ofF op).nm (accI (ofF op) d a b imm))) ∧ Below w.heap.size w w' := by
  go_enter Tryd.func14, Tryd.ntmps14
  go_wp2_with (first | (go_at_call 10; refine (goodR_any op _ _ b imm _).mono ?_; rintro e w1 ⟨rfl, hb1⟩; have p0 := oneR hb1) | (go_at_call 48; refine (of_lit _ _).mono ?_; rintro e w2 ⟨rfl, hb2⟩; obtain ⟨hB, hlt, HP, q0, q1, q2, q3, q4⟩ := headR hb1 hb2))
  clear p0 q0 q1 q2 q3 q4
  have c1 : Blk (w2.alloc (.cells #[.string (ofF op).nm, .bool (ofF op).d, .bool (ofF op).a, .bool (ofF op).b, .int .i64 (ofF op).i, .int .u32 (ofF op).wd] 81)) w2.heap.size #[.string (ofF op).nm, .bool (ofF op).d, .bool (ofF op).a, .bool (ofF op).b, .int .i64 (ofF op).i, .int .u32 (ofF op).wd] 81 := Blk.new _ _ _
  have c2 : Blk (w2.alloc (.cells #[.string (ofF op).nm, .bool (ofF op).d, .bool (ofF op).a, .bool (ofF op).b, .int .i64 (ofF op).i, .int .u32 (ofF op).wd] 81)) w.heap.size #[.int .i64 op, .int .i64 d, .int .i64 a, .int .i64 b, .int .i64 imm] 23 := HP.out.alloc _
  have c4 : Tabs (w2.alloc (.cells #[.string (ofF op).nm, .bool (ofF op).d, .bool (ofF op).a, .bool (ofF op).b, .int .i64 (ofF op).i, .int .u32 (ofF op).wd] 81)) := (T.below hB T.nb).below ((Below.refl _ _).alloc (Nat.le_refl _) _) (by have := T.nb; omega)
  have c5 : Below w.heap.size w (w2.alloc (.cells #[.string (ofF op).nm, .bool (ofF op).d, .bool (ofF op).a, .bool (ofF op).b, .int .i64 (ofF op).i, .int .u32 (ofF op).wd] 81)) := hB.alloc (by omega) _
  have c6 : w2.heap.size < (w2.alloc (.cells #[.string (ofF op).nm, .bool (ofF op).d, .bool (ofF op).a, .bool (ofF op).b, .int .i64 (ofF op).i, .int .u32 (ofF op).wd] 81)).heap.size := by simp
  generalize hW1 : (w2.alloc (.cells #[.string (ofF op).nm, .bool (ofF op).d, .bool (ofF op).a, .bool (ofF op).b, .int .i64 (ofF op).i, .int .u32 (ofF op).wd] 81)) = W1 at *
  clear hW1 hb1 hb2
  have C1 := Lib.hid c1
  have C2 := Lib.hid c2
  have C4 := Lib.hid c4
  have C5 := Lib.hid c5
  clear c1 c2 c4 c5 hB HP
  obtain ⟨h, hh0⟩ : ∃ h, h = ofF op := ⟨_, rfl⟩
  have hh := hh0.symm
  rw [hh] at hnm C1 ⊢
  clear hh0
  have Hh := Lib.hid hh
  clear hh
  go_loopw [6, 43] (fun v i wr => ∃ k : Nat, k ≤ 3 ∧ i = .int .i64 k ∧ TRRel W1 h d a b k v wr) (fun _ i _ => 3 - (RowKit.intOf i).toNat)
  case atStart => exact ⟨0, by omega, rfl, Below.refl _ _, rfl⟩
  case round =>
    obtain ⟨k, hk, rfl, hr⟩ := hrel
    obtain ⟨hbel0, rfl⟩ := hr
    have hbel := Lib.hid hbel0
    have hz1 := hbel0.size
    have HTr := Lib.hid (C4.out.below hbel0 (by have := C4.out.nb; omega))
    have P := C1.out.below hbel0 c6
    have r0 := P.cell 0
    have r1 := P.cell 1
    have r2 := P.cell 2
    have r3 := P.cell 3
    have r4 := P.cell 4
    simp at r0 r1 r2 r3 r4
    have P2 := C2.out.below hbel0 (by omega)
    have s4 := P2.cell 4
    simp at s4
    clear hbel0 P2
    have PH := Lib.hid P
    clear P
    have z1 := itoaB_size d hD.out
    have z2 := itoaB_size a hA.out
    have z3 := itoaB_size b hBb.out
    have z4 := itoaB_size imm hI.out
    have z5 := accB_size h d a b k hD.out hA.out hBb.out
    by_cases hlk : k < 3
    · have hn : k + 1 ≤ 3 := hlk
      have ii0 := ixi_0 d a b
      have ii1 := ixi_1 d a b
      have ii2 := ixi_2 d a b
      have ib0 := ixb_0 h.d h.a h.b
      have ib1 := ixb_1 h.d h.a h.b
      have ib2 := ixb_2 h.d h.a h.b
      obtain rfl | rfl | rfl : k = 0 ∨ k = 1 ∨ k = 2 := by omega
      · cases hf : h.d
        · rw [hf] at ib0 r1
          have Hf := Lib.hid hf
          clear hf
          go_wp2
          refine ⟨⟨1, by omega, by go_num, ⟨hbel.out, ?_⟩⟩, by simp [RowKit.intOf]⟩
          simp [accB, segB, Hf.out, app_empty]
        · rw [hf] at ib0 r1
          have Hf := Lib.hid hf
          clear hf
          go_wp2_with (go_at_call 56; refine (itoa_any _ hD.out.1 hD.out.2 _ HTr.out).mono ?_; rintro e w3 ⟨rfl, hb3⟩)
          refine ⟨⟨1, by omega, by go_num, ⟨below_next hbel.out hb3, ?_⟩⟩, by simp [RowKit.intOf]⟩
          simp [accB, segB, Hf.out, ByteArray.append_assoc]
      · cases hf : h.a
        · rw [hf] at ib1 r2
          have Hf := Lib.hid hf
          clear hf
          go_wp2
          refine ⟨⟨2, by omega, by go_num, ⟨hbel.out, ?_⟩⟩, by simp [RowKit.intOf]⟩
          simp [accB, segB, Hf.out, app_empty]
        · rw [hf] at ib1 r2
          have Hf := Lib.hid hf
          clear hf
          go_wp2_with (go_at_call 56; refine (itoa_any _ hA.out.1 hA.out.2 _ HTr.out).mono ?_; rintro e w3 ⟨rfl, hb3⟩)
          refine ⟨⟨2, by omega, by go_num, ⟨below_next hbel.out hb3, ?_⟩⟩, by simp [RowKit.intOf]⟩
          simp [accB, segB, Hf.out, ByteArray.append_assoc]
      · cases hf : h.b
        · rw [hf] at ib2 r3
          have Hf := Lib.hid hf
          clear hf
          go_wp2
          refine ⟨⟨3, by omega, by go_num, ⟨hbel.out, ?_⟩⟩, by simp [RowKit.intOf]⟩
          simp [accB, segB, Hf.out, app_empty]
        · rw [hf] at ib2 r3
          have Hf := Lib.hid hf
          clear hf
          go_wp2_with (go_at_call 56; refine (itoa_any _ hBb.out.1 hBb.out.2 _ HTr.out).mono ?_; rintro e w3 ⟨rfl, hb3⟩)
          refine ⟨⟨3, by omega, by go_num, ⟨below_next hbel.out hb3, ?_⟩⟩, by simp [RowKit.intOf]⟩
          simp [accB, segB, Hf.out, ByteArray.append_assoc]
    · have hk3 : k = 3 := by omega
      subst hk3
      have hfin : Below w.heap.size w wr := below_then C5.out (by omega) hbel.out
      clear r1 r2 r3
      have l0 : ∀ g : GW wr, g.W.cell? ⟨w2.heap.size, 0, none⟩ = some (.string h.nm) := fun g => gw_cell r0 g
      have zn := hnm.out
      cases hp : decide (0 < h.i)
      · have HX : Hid (accI h d a b imm = accB h d a b 3) := by show _ = _; unfold accI; rw [if_neg (by simpa using hp)]
        generalize hX : accB h d a b 3 = X at *
        clear hX
        cases he : X.toList.isEmpty
        · have h1 : 1 ≤ X.size := by rw [isEmpty_size] at he; have := of_decide_eq_false he; omega
          have HE : Hid (textF h.nm X = h.nm ++ X.extract 1 X.size) := by show _ = _; unfold textF; rw [if_neg (by omega)]
          go_wp2
          refine wp_region_gw_lit (by kernel_rfl) (by kernel_rfl) ?_
          repeat (go_big_quiet_step (fail))
          refine wpQuiet_nil ?_
          rintro _ ⟨g, rfl⟩
          clear l0
          go_wp2
          go_ret
          refine ⟨ret_val ?_, below_then hfin (by omega) g.h⟩
          rw [Hh.out, HX.out, HE.out]
          rfl
        · have HE : Hid (textF h.nm X = h.nm) := by rw [isEmpty_size] at he; show _ = _; unfold textF; rw [if_pos (of_decide_eq_true he)]
          go_wp2
          go_ret
          refine ⟨ret_val ?_, hfin⟩
          rw [Hh.out, HX.out, HE.out]
          rfl
      · have HX : Hid (accI h d a b imm = accB h d a b 3 ++ ⟨#[44, 32]⟩ ++ itoaB imm) := by show _ = _; unfold accI; rw [if_pos (by simpa using hp)]
        generalize hX : accB h d a b 3 = X at *
        clear hX
        have h2 : (⟨#[44, 32]⟩ : ByteArray).size = 2 := rfl
        have HE : Hid (textF h.nm (X ++ ⟨#[44, 32]⟩ ++ itoaB imm) = h.nm ++ (X ++ ⟨#[44, 32]⟩ ++ itoaB imm).extract 1 (X.size + 2 + (itoaB imm).size)) := by
          have hsz : (X ++ ⟨#[44, 32]⟩ ++ itoaB imm).size = X.size + 2 + (itoaB imm).size := by simp only [ByteArray.size_append]; rfl
          show _ = _; unfold textF; rw [hsz, if_neg (by omega)]
        have he : (X ++ ⟨#[44, 32]⟩ ++ itoaB imm).toList.isEmpty = false := by rw [isEmpty_size]; refine decide_eq_false ?_; simp only [ByteArray.size_append]; omega
        clear h2
        go_wp2_with (go_at_call 56; refine (itoa_any _ hI.out.1 hI.out.2 _ HTr.out).mono ?_; rintro e w3 ⟨rfl, hb3⟩)
        have l1 : ∀ g : GW w3, g.W.cell? ⟨w2.heap.size, 0, none⟩ = some (.string h.nm) := fun g => gw_cell ((PH.out.below hb3 (by omega)).cell 0) g
        refine wp_region_gw_lit (by kernel_rfl) (by kernel_rfl) ?_
        repeat (go_big_quiet_step (fail))
        refine wpQuiet_nil ?_
        rintro _ ⟨g, rfl⟩
        clear l0 l1
        go_wp2
        go_ret
        refine ⟨ret_val ?_, below_then (below_then hfin (by omega) hb3) (by have := hb3.size; omega) g.h⟩
        rw [Hh.out, HX.out, HE.out]
        rfl
end Go.Proofs.YtpbffmkdchiajaaDoor

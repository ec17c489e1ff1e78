/-
  The walks of the reference of layer 2: Good, Encode.
-/
import Derived.Test.YtpbffmkdchiajaaDoorRef1
namespace Go.Proofs.YtpbffmkdchiajaaDoor
open Go.RowKit Go.Lib
theorem of_lit (op : Int) (w : World) :
    Calls Tryd.prog 48 #[.int .i64 op] w fun e w' => e = .returned (.tuple #[.agg #[.string (ofF op).nm, .bool (ofF op).d, .bool (ofF op).a, .bool (ofF op).b, .int .i64 (ofF op).i, .int .u32 (ofF op).wd], .bool (ofOk op)]) ∧ Below w.heap.size w w' := of_any op w
def immOk (h : HasF) (imm : Int) : Bool := if h.i = 0 then decide (imm = 0) else if h.i = 4 then (decide (imm.tmod 4 = 0) && fitsF imm 16) else fitsF imm h.i
def condBad (op d a imm : Int) : Bool := (decide (op = 10) && ((!decide (d = 4) && !decide (d = 12)) || decide (2 < a))) || (decide (op = 21) && decide (imm < 0))
def goodR (op d a b imm : Int) : Bool := ofOk op && numF (ofF op).d d && numF (ofF op).a a && numF (ofF op).b b && !condBad op d a imm && immOk (ofF op) imm
theorem ofF_i (op : Int) : (ofF op).i = 0 ∨ (ofF op).i = 4 ∨ (ofF op).i = 14 ∨ (ofF op).i = 16 ∨ (ofF op).i = 24 := by
  by_cases h : 1 ≤ op ∧ op ≤ 22
  · rcases of_cases h.1 h.2 with h | h | h | h | h | h | h | h | h | h | h | h | h | h | h | h | h | h | h | h | h | h <;> subst h <;> decide
  · rw [ofF, if_neg h]; exact .inl rfl
theorem fits1_int (x n : Int) (w : World) (h1 : 1 ≤ n) (h2 : n ≤ 62) :
    Calls Tryd.prog 50 #[.int .i64 x, .int .i64 n] w fun e w' => e = .returned (.bool (fitsF x n)) ∧ w = w' := by
  obtain ⟨m, rfl⟩ := Int.eq_ofNat_of_zero_le (show 0 ≤ n by omega)
  exact fits1_any x m w (by omega) (by omega)
theorem fits1_of (x : Int) (op : Int) (w : World) (h0 : ((ofF op).i == 0) = false) :
    Calls Tryd.prog 50 #[.int .i64 x, .int .i64 (ofF op).i] w fun e w' => e = .returned (.bool (fitsF x (ofF op).i)) ∧ w = w' :=
  fits1_int x _ w (by have := ofF_i op; simp at h0; omega) (by have := ofF_i op; omega)
set_option maxHeartbeats 2000000 in
theorem goodR_any (op d a b imm : Int) (w : World) :
    Calls Tryd.prog 10 #[.agg #[.int .i64 op, .int .i64 d, .int .i64 a, .int .i64 b, .int .i64 imm]] w fun e w' => e = .returned (.bool (goodR op d a b imm)) ∧ Below w.heap.size w w' := by
  have HB := Lib.hid (Blk.new w #[.int .i64 op, .int .i64 d, .int .i64 a, .int .i64 b, .int .i64 imm] 23)
  have b0 := (Below.refl w.heap.size w).alloc (Nat.le_refl _) (.cells #[.int .i64 op, .int .i64 d, .int .i64 a, .int .i64 b, .int .i64 imm] 23)
  go_enter Tryd.func10, Tryd.ntmps10
  go_wp2_with (first | (go_at_call 48; refine (of_lit _ _).mono ?_; rintro e w1 ⟨rfl, hb1⟩; have hP := Lib.hid (HB.out.below hb1 (by simp)); have hz := hb1.size; simp at hz; have hlt : w.heap.size < w1.heap.size := hz; have hB := Lib.hid (below_then b0 (by simp) hb1); have p0 := hP.out.cell 0; have p1 := hP.out.cell 1; have p2 := hP.out.cell 2; have p3 := hP.out.cell 3; have p4 := hP.out.cell 4; simp at p0 p1 p2 p3 p4) | (go_at_call 49; refine (number_any _ _ _).mono ?_; rintro e w2 ⟨rfl, rfl⟩) | (go_at_call 50; (first | (with_reducible refine (fits1_of _ _ _ (by assumption)).mono ?_) | refine (fits1_int _ 16 _ (by omega) (by omega)).mono ?_); rintro e w2 ⟨rfl, rfl⟩))
  all_goals
    go_ret
    refine ⟨ret_bool ?_, (hB.out.alloc (by omega) _)⟩
    first
      | (clear HB b0 hb1 hP hz hlt p0 p1 p2 p3 p4 hB; simp_all [goodR, condBad, immOk]; done)
      | (clear HB b0 hb1 hP hz hlt p0 p1 p2 p3 p4 hB; simp_all [goodR, condBad, immOk]; omega)
end Go.Proofs.YtpbffmkdchiajaaDoor

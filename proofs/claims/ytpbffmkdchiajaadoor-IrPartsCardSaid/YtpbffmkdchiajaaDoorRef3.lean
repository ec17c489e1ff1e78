/-
  The walks of the reference of layer 2: Encode.
-/
import Derived.Test.YtpbffmkdchiajaaDoorRef2
namespace Go.Proofs.YtpbffmkdchiajaaDoor
open Go.RowKit Go.Lib
def encR (op d a b imm : Int) : Int :=
  ((ofF op).wd + d * 2097152 + a * 65536 + b * 2048 + (if (ofF op).i = 4 ∨ (ofF op).i = 16 then (imm + 65536).tmod 65536 else if (ofF op).i = 14 then (4 * imm + 65536).tmod 65536 else if (ofF op).i = 24 then (4 * imm + 67108864).tmod 67108864 else 0)) % 4294967296
set_option maxHeartbeats 1000000 in
theorem encR_any (op d a b imm : Int) (w : World) (d0 : 0 ≤ d) (d1 : d ≤ 31) (a0 : 0 ≤ a) (a1 : a ≤ 31) (c0 : 0 ≤ b) (c1 : b ≤ 31) (i0 : -33554432 ≤ imm) (i1 : imm ≤ 33554432) (w0 : 0 ≤ (ofF op).wd) (w1 : (ofF op).wd ≤ 4294967295) :
    Calls Tryd.prog 15 #[.agg #[.int .i64 op, .int .i64 d, .int .i64 a, .int .i64 b, .int .i64 imm]] w fun e w' => e = .returned (.int .u32 (encR op d a b imm)) ∧ Below w.heap.size w w' := by
  have HB := Lib.hid (Blk.new w #[.int .i64 op, .int .i64 d, .int .i64 a, .int .i64 b, .int .i64 imm] 23)
  have b0 := (Below.refl w.heap.size w).alloc (Nat.le_refl _) (.cells #[.int .i64 op, .int .i64 d, .int .i64 a, .int .i64 b, .int .i64 imm] 23)
  go_enter Tryd.func15, Tryd.ntmps15
  go_wp2_with (go_at_call 48; refine (of_lit _ _).mono ?_; rintro e w1 ⟨rfl, hb1⟩; have hP := Lib.hid (HB.out.below hb1 (by simp)); have hz := hb1.size; simp at hz; have hlt : w.heap.size < w1.heap.size := hz; have hB := Lib.hid (below_then b0 (by simp) hb1); have p0 := hP.out.cell 0; have p1 := hP.out.cell 1; have p2 := hP.out.cell 2; have p3 := hP.out.cell 3; have p4 := hP.out.cell 4; simp at p0 p1 p2 p3 p4)
  all_goals
    go_ret
    refine ⟨ret_int ?_, (hB.out.alloc (by omega) _)⟩
    clear HB b0 hb1 hP hz hlt p0 p1 p2 p3 p4 hB
    simp only [beq_iff_eq, beq_eq_false_iff_ne, ne_eq] at *
    unfold encR
    first
      | (rw [if_pos (Or.inl (by assumption))]; omega)
      | (rw [if_pos (Or.inr (by assumption))]; omega)
      | (rw [if_neg (by omega), if_pos (by assumption)]; omega)
      | (rw [if_neg (by omega), if_neg (by omega), if_pos (by assumption)]; omega)
      | (rw [if_neg (by omega), if_neg (by omega), if_neg (by omega)]; omega)
end Go.Proofs.YtpbffmkdchiajaaDoor

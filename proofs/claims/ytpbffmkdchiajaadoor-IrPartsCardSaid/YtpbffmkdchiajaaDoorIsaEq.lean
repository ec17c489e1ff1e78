/-
  Two instructions compared: what '==' and '!=' of the struct answer.
-/
import Derived.Test.YtpbffmkdchiajaaDoorRows
import Derived.Test.YtpbffmkdchiajaaDoorBase
import Derived.Laws.StructEq
namespace Go.Proofs.YtpbffmkdchiajaaDoor
open Go.RowKit Go.Lib
theorem eq_inst (a0 a1 a2 a3 a4 b0 b1 b2 b3 b4 : Int) (W : World) :
    (binOp .eql 23 (.agg #[.int .i64 a0, .int .i64 a1, .int .i64 a2, .int .i64 a3, .int .i64 a4]) (.agg #[.int .i64 b0, .int .i64 b1, .int .i64 b2, .int .i64 b3, .int .i64 b4])).run Tryd.prog W
      = .ok (.bool (decide (a0 = b0 ∧ a1 = b1 ∧ a2 = b2 ∧ a3 = b3 ∧ a4 = b4))) W := by
  simp only [binOp]
  simp [Op.equal, Op.maxDepth, go_sem]
  by_cases h0 : a0 = b0 <;> by_cases h1 : a1 = b1 <;> by_cases h2 : a2 = b2 <;> by_cases h3 : a3 = b3 <;> by_cases h4 : a4 = b4 <;> simp [*]
theorem neq_inst (a0 a1 a2 a3 a4 b0 b1 b2 b3 b4 : Int) (W : World) :
    (binOp .neq 23 (.agg #[.int .i64 a0, .int .i64 a1, .int .i64 a2, .int .i64 a3, .int .i64 a4]) (.agg #[.int .i64 b0, .int .i64 b1, .int .i64 b2, .int .i64 b3, .int .i64 b4])).run Tryd.prog W
      = .ok (.bool (!decide (a0 = b0 ∧ a1 = b1 ∧ a2 = b2 ∧ a3 = b3 ∧ a4 = b4))) W := by
  simp only [binOp]
  simp [Op.equal, Op.maxDepth, go_sem]
  by_cases h0 : a0 = b0 <;> by_cases h1 : a1 = b1 <;> by_cases h2 : a2 = b2 <;> by_cases h3 : a3 = b3 <;> by_cases h4 : a4 = b4 <;> simp [*]
end Go.Proofs.YtpbffmkdchiajaaDoor

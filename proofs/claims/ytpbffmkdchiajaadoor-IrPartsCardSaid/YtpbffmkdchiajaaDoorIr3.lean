/-
  The walks of package ir, third part: reg, shape.
-/
import Derived.Test.YtpbffmkdchiajaaDoorIr2
namespace Go.Proofs.YtpbffmkdchiajaaDoor
open Go.RowKit
def irRegF (has none : Bool) (n regs : Int) : Bool := if (!has || (none && (n == -1))) then (n == -1) else (decide (0 ≤ n) && decide (n < regs))
theorem irReg_any (has none : Bool) (n regs : Int) (w : World) :
    Calls Tryd.prog 143 #[.bool has, .bool none, .int .i64 n, .int .i64 regs] w fun e w' => e = .returned (.bool (irRegF has none n regs)) ∧ w' = w := by
  cases has <;> cases none <;> cases h1 : (n == -1) <;> cases h2 : decide (0 ≤ n)
  all_goals
    go_enter Tryd.func143, Tryd.ntmps143
    go_wp2
    all_goals
      go_ret
      exact ⟨ret_bool (by simp [irRegF, h1, h2]), rfl⟩
def irShapeF (op : Int) : Bool × Bool × Bool × Bool :=
  if op = 1 then (true, false, false, false) else if op = 2 then (true, true, false, false)
  else if op = 3 ∨ op = 4 ∨ op = 5 ∨ op = 6 ∨ op = 7 ∨ op = 8 then (true, true, true, false)
  else if op = 9 then (true, true, false, false) else if op = 10 then (false, true, true, false)
  else if op = 11 ∨ op = 12 then (false, false, false, true) else if op = 13 then (false, true, false, true)
  else if op = 14 then (true, false, false, false) else if op = 17 then (true, true, false, true)
  else if op = 15 ∨ op = 18 ∨ op = 19 ∨ op = 20 then (false, true, false, false) else (false, false, false, false)
set_option maxHeartbeats 4000000 in
theorem irShape_any (op : Int) (w : World) :
    Calls Tryd.prog 142 #[.int .i64 op] w fun e w' => e = .returned (.tuple #[.bool (irShapeF op).1, .bool (irShapeF op).2.1, .bool (irShapeF op).2.2.1, .bool (irShapeF op).2.2.2]) ∧ w' = w := by
  go_enter Tryd.func142, Tryd.ntmps142
  go_wp2
  all_goals
    refine bodyPost_4 Tryd.results142 rfl ⟨?_, rfl⟩
    unfold irShapeF
    simp_all
end Go.Proofs.YtpbffmkdchiajaaDoor

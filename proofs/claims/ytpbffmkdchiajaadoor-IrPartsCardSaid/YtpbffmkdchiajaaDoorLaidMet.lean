/-
  The witness's world meets the rows' lists.
-/
import Derived.Test.YtpbffmkdchiajaaDoorLaid
namespace Go.Proofs.YtpbffmkdchiajaaDoor
theorem isa_laid_met (os : Os) (args : Array Value) : laidMetH Tryd.prog Rows.isaWritesRow.laid ((laidWorld os).forCall (fun _ _ => 0) ⟨#[], args, []⟩).memory := by
  rw [MakeChecks.laidMetH_plain _ _ _ (by kernel_rfl)]
  exact laidMet_of_run3 8 (by kernel_rfl) (by kernel_rfl) (by kernel_rfl)
end Go.Proofs.YtpbffmkdchiajaaDoor

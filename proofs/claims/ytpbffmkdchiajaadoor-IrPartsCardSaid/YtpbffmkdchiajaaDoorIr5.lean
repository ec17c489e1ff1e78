/-
  The walks of package ir, fifth part: the closure of good over a call's arguments.
-/
import Derived.Test.YtpbffmkdchiajaaDoorIr3
import Derived.Test.YtpbffmkdchiajaaDoorShelf2
namespace Go.Proofs.YtpbffmkdchiajaaDoor
open Go.RowKit Go.Shelf Go.Lib
def argBad (regs n : Int) : Bool := decide (n < 0) || decide (regs ≤ n)
theorem argBad_pred (regs : Int) (B : Nat) (w : World) (hB : B < w.heap.size) (hcell : w.cell? ⟨B, 2, none⟩ = some (.int .i64 regs)) :
    PredAt Tryd.prog 145 #[.pointer (some ⟨B, 0, none⟩)] (Value.int .i64) (argBad regs) w := fun W x hb => by
  have hc : W.cell? ⟨B, 2, none⟩ = some (.int .i64 regs) := (hb.cell (p := ⟨B, 2, none⟩) hB).trans hcell
  show Calls Tryd.prog 145 #[.int .i64 x, .pointer (some ⟨B, 0, none⟩)] W _
  go_enter Tryd.func145, Tryd.ntmps145
  go_wp2
  all_goals (go_ret; exact ⟨by simp_all [argBad], 0, rfl⟩)
theorem eg145 : ∀ args w, (callFunc 145 args).run Tryd.prog w = .ok (.enter 145 args) w := enters_of Tryd.func145 (by kernel_rfl) rfl
theorem containsBad (ad : Option Addr) (cap : Nat) (zs : List Int) (w : World) (h : IntsOk w ad zs) (regs : Int) (B : Nat) (hB : B < w.heap.size) (hcell : w.cell? ⟨B, 2, none⟩ = some (.int .i64 regs)) :
    Calls Tryd.prog 91 #[.slice ad zs.length cap, .func (.func 145) #[] #[.pointer (some ⟨B, 0, none⟩)]] w fun e w' => e = .returned (.bool (zs.any (argBad regs))) ∧ Below w.heap.size w w' := by
  by_cases h0 : 0 < zs.length
  · obtain ⟨b, off, rfl, hlt, hc⟩ := h.2 h0
    have hcon := AnyE.slices_ContainsFunc Tryd.laysCF91 (Value.int .i64) (argBad regs) 145 #[.pointer (some ⟨B, 0, none⟩)] eg145 b off zs.length cap zs w (argBad_pred regs B w hB hcell) (Nat.le_refl _) h.1
      (fun j hj => by rw [hc j hj]; simp [List.getD, hj])
    rw [List.take_length] at hcon
    exact hcon.mono fun e w' ⟨he, q, hw⟩ => ⟨he, by rw [hw]; exact below_drewN (Below.refl _ _) q⟩
  · obtain rfl : zs = [] := List.eq_nil_of_length_eq_zero (by omega)
    exact (AnyE.slices_ContainsFunc_empty Tryd.laysCF91 ad cap _ w).mono fun e w' ⟨he, hw⟩ => ⟨he, by rw [hw]; exact Below.refl _ _⟩
theorem containsLab (ad : Option Addr) (cap : Nat) (zs : List Int) (x : Int) (w : World) (h : IntsOk w ad zs) :
    Calls Tryd.prog 144 #[.slice ad zs.length cap, .int .i64 x] w fun e w' => e = .returned (.bool (zs.contains x)) ∧ w' = w := by
  by_cases h0 : 0 < zs.length
  · obtain ⟨b, off, rfl, hlt, hc⟩ := h.2 h0
    have hcon := Tryd.slices_Contains_int b off zs.length cap zs x w (Nat.le_refl _) h.1 hc
    rw [List.take_length] at hcon
    exact hcon
  · obtain rfl : zs = [] := List.eq_nil_of_length_eq_zero (by omega)
    exact Tryd.slices_Contains_int_empty ad cap x w
end Go.Proofs.YtpbffmkdchiajaaDoor

/-
  The walks of package ir, fourth part: bare.
-/
import Derived.Test.YtpbffmkdchiajaaDoorIr3
namespace Go.Proofs.YtpbffmkdchiajaaDoor
open Go.RowKit
def bareF (op a imm what : Int) (vol fin : Bool) (n : Nat) : Bool :=
  let memory := op == 9 || op == 10
  let fence := ((op == 21 && (imm == 1 || imm == 2)) && a == -1) || ((op == 21 && imm == 3) && decide (0 ≤ a))
  let number := imm == 0 || memory || fence || op == 1 || op == 14 || (op == 16 && decide (0 < imm)) || (op == 22 && imm == 1)
  (memory || ((what == 0 && !vol) && !fin)) && (op == 14 || n == 0) && (number || op == 11 || op == 12 || op == 13 || op == 17) && (op != 21 || fence)
set_option maxRecDepth 100000 in
set_option maxHeartbeats 4000000 in
theorem bare_9 (d a b imm what : Int) (ad : Option Addr) (n cap : Nat) (vol fin : Bool) (w : World) :
    Calls Tryd.prog 141 #[.agg #[.int .i64 9, .int .i64 d, .int .i64 a, .int .i64 b, .int .i64 imm, .slice ad n cap, .int .i64 what, .bool vol, .bool fin]] w fun e w' => e = .returned (.bool (bareF 9 a imm what vol fin n)) ∧ Below w.heap.size w w' := by
  go_enter Tryd.func141, Tryd.ntmps141
  go_wp2
  all_goals
    go_ret
    refine ⟨ret_bool ?_, (Below.refl w.heap.size w).alloc (Nat.le_refl _) _⟩
    simp_all [bareF]
set_option maxRecDepth 100000 in
set_option maxHeartbeats 4000000 in
theorem bare_10 (d a b imm what : Int) (ad : Option Addr) (n cap : Nat) (vol fin : Bool) (w : World) :
    Calls Tryd.prog 141 #[.agg #[.int .i64 10, .int .i64 d, .int .i64 a, .int .i64 b, .int .i64 imm, .slice ad n cap, .int .i64 what, .bool vol, .bool fin]] w fun e w' => e = .returned (.bool (bareF 10 a imm what vol fin n)) ∧ Below w.heap.size w w' := by
  go_enter Tryd.func141, Tryd.ntmps141
  go_wp2
  all_goals
    go_ret
    refine ⟨ret_bool ?_, (Below.refl w.heap.size w).alloc (Nat.le_refl _) _⟩
    simp_all [bareF]
set_option maxRecDepth 100000 in
set_option maxHeartbeats 4000000 in
theorem bare_21 (d a b imm what : Int) (ad : Option Addr) (n cap : Nat) (vol fin : Bool) (w : World) :
    Calls Tryd.prog 141 #[.agg #[.int .i64 21, .int .i64 d, .int .i64 a, .int .i64 b, .int .i64 imm, .slice ad n cap, .int .i64 what, .bool vol, .bool fin]] w fun e w' => e = .returned (.bool (bareF 21 a imm what vol fin n)) ∧ Below w.heap.size w w' := by
  go_enter Tryd.func141, Tryd.ntmps141
  go_wp2
  all_goals
    go_ret
    refine ⟨ret_bool ?_, (Below.refl w.heap.size w).alloc (Nat.le_refl _) _⟩
    simp_all [bareF]
set_option maxRecDepth 100000 in
set_option maxHeartbeats 4000000 in
theorem bare_1 (d a b imm what : Int) (ad : Option Addr) (n cap : Nat) (vol fin : Bool) (w : World) :
    Calls Tryd.prog 141 #[.agg #[.int .i64 1, .int .i64 d, .int .i64 a, .int .i64 b, .int .i64 imm, .slice ad n cap, .int .i64 what, .bool vol, .bool fin]] w fun e w' => e = .returned (.bool (bareF 1 a imm what vol fin n)) ∧ Below w.heap.size w w' := by
  go_enter Tryd.func141, Tryd.ntmps141
  go_wp2
  all_goals
    go_ret
    refine ⟨ret_bool ?_, (Below.refl w.heap.size w).alloc (Nat.le_refl _) _⟩
    simp_all [bareF]
set_option maxRecDepth 100000 in
set_option maxHeartbeats 4000000 in
theorem bare_14 (d a b imm what : Int) (ad : Option Addr) (n cap : Nat) (vol fin : Bool) (w : World) :
    Calls Tryd.prog 141 #[.agg #[.int .i64 14, .int .i64 d, .int .i64 a, .int .i64 b, .int .i64 imm, .slice ad n cap, .int .i64 what, .bool vol, .bool fin]] w fun e w' => e = .returned (.bool (bareF 14 a imm what vol fin n)) ∧ Below w.heap.size w w' := by
  go_enter Tryd.func141, Tryd.ntmps141
  go_wp2
  all_goals
    go_ret
    refine ⟨ret_bool ?_, (Below.refl w.heap.size w).alloc (Nat.le_refl _) _⟩
    simp_all [bareF]
set_option maxRecDepth 100000 in
set_option maxHeartbeats 4000000 in
theorem bare_16 (d a b imm what : Int) (ad : Option Addr) (n cap : Nat) (vol fin : Bool) (w : World) :
    Calls Tryd.prog 141 #[.agg #[.int .i64 16, .int .i64 d, .int .i64 a, .int .i64 b, .int .i64 imm, .slice ad n cap, .int .i64 what, .bool vol, .bool fin]] w fun e w' => e = .returned (.bool (bareF 16 a imm what vol fin n)) ∧ Below w.heap.size w w' := by
  go_enter Tryd.func141, Tryd.ntmps141
  go_wp2
  all_goals
    go_ret
    refine ⟨ret_bool ?_, (Below.refl w.heap.size w).alloc (Nat.le_refl _) _⟩
    simp_all [bareF]
set_option maxRecDepth 100000 in
set_option maxHeartbeats 4000000 in
theorem bare_22 (d a b imm what : Int) (ad : Option Addr) (n cap : Nat) (vol fin : Bool) (w : World) :
    Calls Tryd.prog 141 #[.agg #[.int .i64 22, .int .i64 d, .int .i64 a, .int .i64 b, .int .i64 imm, .slice ad n cap, .int .i64 what, .bool vol, .bool fin]] w fun e w' => e = .returned (.bool (bareF 22 a imm what vol fin n)) ∧ Below w.heap.size w w' := by
  go_enter Tryd.func141, Tryd.ntmps141
  go_wp2
  all_goals
    go_ret
    refine ⟨ret_bool ?_, (Below.refl w.heap.size w).alloc (Nat.le_refl _) _⟩
    simp_all [bareF]
set_option maxRecDepth 100000 in
set_option maxHeartbeats 4000000 in
theorem bare_11 (d a b imm what : Int) (ad : Option Addr) (n cap : Nat) (vol fin : Bool) (w : World) :
    Calls Tryd.prog 141 #[.agg #[.int .i64 11, .int .i64 d, .int .i64 a, .int .i64 b, .int .i64 imm, .slice ad n cap, .int .i64 what, .bool vol, .bool fin]] w fun e w' => e = .returned (.bool (bareF 11 a imm what vol fin n)) ∧ Below w.heap.size w w' := by
  go_enter Tryd.func141, Tryd.ntmps141
  go_wp2
  all_goals
    go_ret
    refine ⟨ret_bool ?_, (Below.refl w.heap.size w).alloc (Nat.le_refl _) _⟩
    simp_all [bareF]
set_option maxRecDepth 100000 in
set_option maxHeartbeats 4000000 in
theorem bare_12 (d a b imm what : Int) (ad : Option Addr) (n cap : Nat) (vol fin : Bool) (w : World) :
    Calls Tryd.prog 141 #[.agg #[.int .i64 12, .int .i64 d, .int .i64 a, .int .i64 b, .int .i64 imm, .slice ad n cap, .int .i64 what, .bool vol, .bool fin]] w fun e w' => e = .returned (.bool (bareF 12 a imm what vol fin n)) ∧ Below w.heap.size w w' := by
  go_enter Tryd.func141, Tryd.ntmps141
  go_wp2
  all_goals
    go_ret
    refine ⟨ret_bool ?_, (Below.refl w.heap.size w).alloc (Nat.le_refl _) _⟩
    simp_all [bareF]
set_option maxRecDepth 100000 in
set_option maxHeartbeats 4000000 in
theorem bare_13 (d a b imm what : Int) (ad : Option Addr) (n cap : Nat) (vol fin : Bool) (w : World) :
    Calls Tryd.prog 141 #[.agg #[.int .i64 13, .int .i64 d, .int .i64 a, .int .i64 b, .int .i64 imm, .slice ad n cap, .int .i64 what, .bool vol, .bool fin]] w fun e w' => e = .returned (.bool (bareF 13 a imm what vol fin n)) ∧ Below w.heap.size w w' := by
  go_enter Tryd.func141, Tryd.ntmps141
  go_wp2
  all_goals
    go_ret
    refine ⟨ret_bool ?_, (Below.refl w.heap.size w).alloc (Nat.le_refl _) _⟩
    simp_all [bareF]
set_option maxRecDepth 100000 in
set_option maxHeartbeats 4000000 in
theorem bare_17 (d a b imm what : Int) (ad : Option Addr) (n cap : Nat) (vol fin : Bool) (w : World) :
    Calls Tryd.prog 141 #[.agg #[.int .i64 17, .int .i64 d, .int .i64 a, .int .i64 b, .int .i64 imm, .slice ad n cap, .int .i64 what, .bool vol, .bool fin]] w fun e w' => e = .returned (.bool (bareF 17 a imm what vol fin n)) ∧ Below w.heap.size w w' := by
  go_enter Tryd.func141, Tryd.ntmps141
  go_wp2
  all_goals
    go_ret
    refine ⟨ret_bool ?_, (Below.refl w.heap.size w).alloc (Nat.le_refl _) _⟩
    simp_all [bareF]
set_option maxRecDepth 100000 in
set_option maxHeartbeats 4000000 in
theorem bare_other (op d a b imm what : Int) (ad : Option Addr) (n cap : Nat) (vol fin : Bool) (w : World) (h9 : (op == 9) = false) (h10 : (op == 10) = false) (h21 : (op == 21) = false) (h1 : (op == 1) = false) (h14 : (op == 14) = false) (h16 : (op == 16) = false) (h22 : (op == 22) = false) (h11 : (op == 11) = false) (h12 : (op == 12) = false) (h13 : (op == 13) = false) (h17 : (op == 17) = false) (hn : (op != 21) = true) :
    Calls Tryd.prog 141 #[.agg #[.int .i64 op, .int .i64 d, .int .i64 a, .int .i64 b, .int .i64 imm, .slice ad n cap, .int .i64 what, .bool vol, .bool fin]] w fun e w' => e = .returned (.bool (bareF op a imm what vol fin n)) ∧ Below w.heap.size w w' := by
  go_enter Tryd.func141, Tryd.ntmps141
  go_wp2
  all_goals
    go_ret
    refine ⟨ret_bool ?_, (Below.refl w.heap.size w).alloc (Nat.le_refl _) _⟩
    simp_all [bareF]
theorem bare_any (op d a b imm what : Int) (ad : Option Addr) (n cap : Nat) (vol fin : Bool) (w : World) :
    Calls Tryd.prog 141 #[.agg #[.int .i64 op, .int .i64 d, .int .i64 a, .int .i64 b, .int .i64 imm, .slice ad n cap, .int .i64 what, .bool vol, .bool fin]] w fun e w' => e = .returned (.bool (bareF op a imm what vol fin n)) ∧ Below w.heap.size w w' := by
  by_cases h9 : op = 9
  · subst h9; exact bare_9 d a b imm what ad n cap vol fin w
  by_cases h10 : op = 10
  · subst h10; exact bare_10 d a b imm what ad n cap vol fin w
  by_cases h21 : op = 21
  · subst h21; exact bare_21 d a b imm what ad n cap vol fin w
  by_cases h1 : op = 1
  · subst h1; exact bare_1 d a b imm what ad n cap vol fin w
  by_cases h14 : op = 14
  · subst h14; exact bare_14 d a b imm what ad n cap vol fin w
  by_cases h16 : op = 16
  · subst h16; exact bare_16 d a b imm what ad n cap vol fin w
  by_cases h22 : op = 22
  · subst h22; exact bare_22 d a b imm what ad n cap vol fin w
  by_cases h11 : op = 11
  · subst h11; exact bare_11 d a b imm what ad n cap vol fin w
  by_cases h12 : op = 12
  · subst h12; exact bare_12 d a b imm what ad n cap vol fin w
  by_cases h13 : op = 13
  · subst h13; exact bare_13 d a b imm what ad n cap vol fin w
  by_cases h17 : op = 17
  · subst h17; exact bare_17 d a b imm what ad n cap vol fin w
  exact bare_other op d a b imm what ad n cap vol fin w (by simpa using h9) (by simpa using h10) (by simpa using h21) (by simpa using h1) (by simpa using h14) (by simpa using h16) (by simpa using h22) (by simpa using h11) (by simpa using h12) (by simpa using h13) (by simpa using h17) (by simpa using h21)
end Go.Proofs.YtpbffmkdchiajaaDoor

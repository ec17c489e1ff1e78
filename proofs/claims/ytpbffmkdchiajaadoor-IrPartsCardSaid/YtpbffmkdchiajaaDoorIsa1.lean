/-
  The walks of package isa, first part: register, part.
-/
import Derived.Test.YtpbffmkdchiajaaDoorWord
namespace Go.Proofs.YtpbffmkdchiajaaDoor
open Go.RowKit
def regF (n : Int) : Bool := decide (0 ≤ n ∧ n < 32)
set_option maxHeartbeats 400000 in
theorem register_any (n : Int) (w : World) :
    Calls Tryd.prog 110 #[.int .i64 n] w fun e w' => e = .returned (.bool (regF n)) ∧ w = w' := by
  go_enter Tryd.func110, Tryd.ntmps110
  go_wp2
  all_goals (go_ret; exact ⟨ret_bool (by simp [regF]; try omega), rfl⟩)
theorem bodyPost_4 {P : Program} {fn : Func} {R : Ending → World → Prop} {a : Act} {w : World} {p q r s : Tmp} (hres : fn.results = #[.tmp p, .tmp q, .tmp r, .tmp s]) (hd : a.defers = [])
    (hR : R (.returned (.tuple #[a.tmps.getD p undef, a.tmps.getD q undef, a.tmps.getD r undef, a.tmps.getD s undef])) w) : bodyPost P fn R .ret a w :=
  bodyPost_ret (v := .tuple #[a.tmps.getD p undef, a.tmps.getD q undef, a.tmps.getD r undef, a.tmps.getD s undef]) (by simp [results, hres]) hd hR
set_option maxHeartbeats 400000 in
theorem part_d (d a b imm op : Int) (bk : Nat) (w : World) (h0 : w.cell? ⟨bk, 0, none⟩ = some (.int .i64 op)) (h1 : w.cell? ⟨bk, 1, none⟩ = some (.int .i64 d)) (h2 : w.cell? ⟨bk, 2, none⟩ = some (.int .i64 a))
    (h3 : w.cell? ⟨bk, 3, none⟩ = some (.int .i64 b)) (h4 : w.cell? ⟨bk, 4, none⟩ = some (.int .i64 imm)) :
    Calls Tryd.prog 51 #[.int .u8 100, .pointer (some ⟨bk, 0, none⟩)] w fun e w' => e = .returned (.tuple #[.int .i64 6, .int .i64 5, .int .i64 d, .bool (regF d)]) ∧ ∃ n, w' = w.drewN n := by
  go_enter Tryd.func51, Tryd.ntmps51
  go_wp2
  go_quiet ((go_at_call 110; exact quiet_same (register_any _ _)))
  all_goals go_wp2
  exact bodyPost_4 Tryd.results51 rfl ⟨rfl, _, rfl⟩
set_option maxHeartbeats 400000 in
theorem part_a (d a b imm op : Int) (bk : Nat) (w : World) (h0 : w.cell? ⟨bk, 0, none⟩ = some (.int .i64 op)) (h1 : w.cell? ⟨bk, 1, none⟩ = some (.int .i64 d)) (h2 : w.cell? ⟨bk, 2, none⟩ = some (.int .i64 a))
    (h3 : w.cell? ⟨bk, 3, none⟩ = some (.int .i64 b)) (h4 : w.cell? ⟨bk, 4, none⟩ = some (.int .i64 imm)) :
    Calls Tryd.prog 51 #[.int .u8 97, .pointer (some ⟨bk, 0, none⟩)] w fun e w' => e = .returned (.tuple #[.int .i64 11, .int .i64 5, .int .i64 a, .bool (regF a)]) ∧ ∃ n, w' = w.drewN n := by
  go_enter Tryd.func51, Tryd.ntmps51
  go_wp2
  go_quiet ((go_at_call 110; exact quiet_same (register_any _ _)))
  all_goals go_wp2
  exact bodyPost_4 Tryd.results51 rfl ⟨rfl, _, rfl⟩
set_option maxHeartbeats 400000 in
theorem part_b (d a b imm op : Int) (bk : Nat) (w : World) (h0 : w.cell? ⟨bk, 0, none⟩ = some (.int .i64 op)) (h1 : w.cell? ⟨bk, 1, none⟩ = some (.int .i64 d)) (h2 : w.cell? ⟨bk, 2, none⟩ = some (.int .i64 a))
    (h3 : w.cell? ⟨bk, 3, none⟩ = some (.int .i64 b)) (h4 : w.cell? ⟨bk, 4, none⟩ = some (.int .i64 imm)) :
    Calls Tryd.prog 51 #[.int .u8 98, .pointer (some ⟨bk, 0, none⟩)] w fun e w' => e = .returned (.tuple #[.int .i64 16, .int .i64 5, .int .i64 b, .bool (regF b)]) ∧ ∃ n, w' = w.drewN n := by
  go_enter Tryd.func51, Tryd.ntmps51
  go_wp2
  go_quiet ((go_at_call 110; exact quiet_same (register_any _ _)))
  all_goals go_wp2
  exact bodyPost_4 Tryd.results51 rfl ⟨rfl, _, rfl⟩
set_option maxHeartbeats 400000 in
theorem part_i (d a b imm op : Int) (bk : Nat) (w : World) (h0 : w.cell? ⟨bk, 0, none⟩ = some (.int .i64 op)) (h1 : w.cell? ⟨bk, 1, none⟩ = some (.int .i64 d)) (h2 : w.cell? ⟨bk, 2, none⟩ = some (.int .i64 a))
    (h3 : w.cell? ⟨bk, 3, none⟩ = some (.int .i64 b)) (h4 : w.cell? ⟨bk, 4, none⟩ = some (.int .i64 imm)) :
    Calls Tryd.prog 51 #[.int .u8 105, .pointer (some ⟨bk, 0, none⟩)] w fun e w' => e = .returned (.tuple #[.int .i64 16, .int .i64 16, .int .i64 imm, .bool (fitsF imm 16)]) ∧ ∃ n, w' = w.drewN n := by
  go_enter Tryd.func51, Tryd.ntmps51
  go_wp2
  go_quiet ((go_at_call 111; exact quiet_same (fits_any _ _ _ (by omega) (by omega))))
  all_goals go_wp2
  exact bodyPost_4 Tryd.results51 rfl ⟨rfl, _, rfl⟩
set_option maxHeartbeats 400000 in
theorem part_o (d a b imm op : Int) (bk : Nat) (w : World) (h0 : w.cell? ⟨bk, 0, none⟩ = some (.int .i64 op)) (h1 : w.cell? ⟨bk, 1, none⟩ = some (.int .i64 d)) (h2 : w.cell? ⟨bk, 2, none⟩ = some (.int .i64 a))
    (h3 : w.cell? ⟨bk, 3, none⟩ = some (.int .i64 b)) (h4 : w.cell? ⟨bk, 4, none⟩ = some (.int .i64 imm)) :
    Calls Tryd.prog 51 #[.int .u8 111, .pointer (some ⟨bk, 0, none⟩)] w fun e w' => e = .returned (.tuple #[.int .i64 16, .int .i64 14, .int .i64 imm, .bool (fitsF imm 14)]) ∧ ∃ n, w' = w.drewN n := by
  go_enter Tryd.func51, Tryd.ntmps51
  go_wp2
  go_quiet ((go_at_call 111; exact quiet_same (fits_any _ _ _ (by omega) (by omega))))
  all_goals go_wp2
  exact bodyPost_4 Tryd.results51 rfl ⟨rfl, _, rfl⟩
set_option maxHeartbeats 400000 in
theorem part_l (d a b imm op : Int) (bk : Nat) (w : World) (h0 : w.cell? ⟨bk, 0, none⟩ = some (.int .i64 op)) (h1 : w.cell? ⟨bk, 1, none⟩ = some (.int .i64 d)) (h2 : w.cell? ⟨bk, 2, none⟩ = some (.int .i64 a))
    (h3 : w.cell? ⟨bk, 3, none⟩ = some (.int .i64 b)) (h4 : w.cell? ⟨bk, 4, none⟩ = some (.int .i64 imm)) :
    Calls Tryd.prog 51 #[.int .u8 108, .pointer (some ⟨bk, 0, none⟩)] w fun e w' => e = .returned (.tuple #[.int .i64 6, .int .i64 24, .int .i64 imm, .bool (fitsF imm 24)]) ∧ ∃ n, w' = w.drewN n := by
  go_enter Tryd.func51, Tryd.ntmps51
  go_wp2
  go_quiet ((go_at_call 111; exact quiet_same (fits_any _ _ _ (by omega) (by omega))))
  all_goals go_wp2
  exact bodyPost_4 Tryd.results51 rfl ⟨rfl, _, rfl⟩
set_option maxHeartbeats 400000 in
theorem part_m_true (d a b imm op : Int) (bk : Nat) (w : World) (h0 : w.cell? ⟨bk, 0, none⟩ = some (.int .i64 op)) (h1 : w.cell? ⟨bk, 1, none⟩ = some (.int .i64 d)) (h2 : w.cell? ⟨bk, 2, none⟩ = some (.int .i64 a))
    (h3 : w.cell? ⟨bk, 3, none⟩ = some (.int .i64 b)) (h4 : w.cell? ⟨bk, 4, none⟩ = some (.int .i64 imm)) (hg : Hid (fitsF imm 16 = true)) :
    Calls Tryd.prog 51 #[.int .u8 109, .pointer (some ⟨bk, 0, none⟩)] w fun e w' => e = .returned (.tuple #[.int .i64 16, .int .i64 14, .int .i64 (imm / 4), .bool (fitsF imm 16 && decide (imm % 4 = 0))]) ∧ ∃ n, w' = w.drewN n := by
  go_enter Tryd.func51, Tryd.ntmps51
  go_wp2
  go_quiet ((go_at_call 111; exact quiet_same (fits_val _ _ _ (by omega) (by omega) true hg.out)))
  all_goals go_wp2
  refine bodyPost_4 Tryd.results51 rfl ⟨?_, _, rfl⟩
  simp only [hg.out, and3, Bool.true_and]
  rfl
set_option maxHeartbeats 400000 in
theorem part_m_false (d a b imm op : Int) (bk : Nat) (w : World) (h0 : w.cell? ⟨bk, 0, none⟩ = some (.int .i64 op)) (h1 : w.cell? ⟨bk, 1, none⟩ = some (.int .i64 d)) (h2 : w.cell? ⟨bk, 2, none⟩ = some (.int .i64 a))
    (h3 : w.cell? ⟨bk, 3, none⟩ = some (.int .i64 b)) (h4 : w.cell? ⟨bk, 4, none⟩ = some (.int .i64 imm)) (hg : Hid (fitsF imm 16 = false)) :
    Calls Tryd.prog 51 #[.int .u8 109, .pointer (some ⟨bk, 0, none⟩)] w fun e w' => e = .returned (.tuple #[.int .i64 16, .int .i64 14, .int .i64 (imm / 4), .bool (fitsF imm 16 && decide (imm % 4 = 0))]) ∧ ∃ n, w' = w.drewN n := by
  go_enter Tryd.func51, Tryd.ntmps51
  go_wp2
  go_quiet ((go_at_call 111; exact quiet_same (fits_val _ _ _ (by omega) (by omega) false hg.out)))
  all_goals go_wp2
  refine bodyPost_4 Tryd.results51 rfl ⟨?_, _, rfl⟩
  rw [hg.out]; rfl
def condF (d a : Int) : Bool := decide ((d = 4 ∨ d = 12) ∧ 0 ≤ a ∧ a < 3)
set_option maxHeartbeats 800000 in
theorem part_c_4a (d a b imm op : Int) (bk : Nat) (w : World) (h0 : w.cell? ⟨bk, 0, none⟩ = some (.int .i64 op)) (h1 : w.cell? ⟨bk, 1, none⟩ = some (.int .i64 d)) (h2 : w.cell? ⟨bk, 2, none⟩ = some (.int .i64 a))
    (h3 : w.cell? ⟨bk, 3, none⟩ = some (.int .i64 b)) (h4 : w.cell? ⟨bk, 4, none⟩ = some (.int .i64 imm)) (hd : d = 4) (ha : 0 ≤ a) :
    Calls Tryd.prog 51 #[.int .u8 99, .pointer (some ⟨bk, 0, none⟩)] w fun e w' => e = .returned (.tuple #[.int .i64 6, .int .i64 10, .int .i64 (bits .or .i64 (wrap64 (d * 32)) a), .bool (condF d a)]) ∧ ∃ n, w' = w.drewN n := by
  subst hd
  have e3 : decide (0 ≤ a) = true := by simpa using ha
  go_enter Tryd.func51, Tryd.ntmps51
  go_wp2
  go_quiet (fail)
  all_goals go_wp2
  refine bodyPost_4 Tryd.results51 rfl ⟨?_, _, rfl⟩
  simp [condF, show wrap64 128 = 128 from by unfold wrap64; omega, show wrap64 384 = 384 from by unfold wrap64; omega]
  omega
set_option maxHeartbeats 800000 in
theorem part_c_4n (d a b imm op : Int) (bk : Nat) (w : World) (h0 : w.cell? ⟨bk, 0, none⟩ = some (.int .i64 op)) (h1 : w.cell? ⟨bk, 1, none⟩ = some (.int .i64 d)) (h2 : w.cell? ⟨bk, 2, none⟩ = some (.int .i64 a))
    (h3 : w.cell? ⟨bk, 3, none⟩ = some (.int .i64 b)) (h4 : w.cell? ⟨bk, 4, none⟩ = some (.int .i64 imm)) (hd : d = 4) (ha : a < 0) :
    Calls Tryd.prog 51 #[.int .u8 99, .pointer (some ⟨bk, 0, none⟩)] w fun e w' => e = .returned (.tuple #[.int .i64 6, .int .i64 10, .int .i64 (bits .or .i64 (wrap64 (d * 32)) a), .bool (condF d a)]) ∧ ∃ n, w' = w.drewN n := by
  subst hd
  have e3 : decide (0 ≤ a) = false := by simpa using ha
  go_enter Tryd.func51, Tryd.ntmps51
  go_wp2
  go_quiet (fail)
  all_goals go_wp2
  refine bodyPost_4 Tryd.results51 rfl ⟨?_, _, rfl⟩
  simp [condF, show wrap64 128 = 128 from by unfold wrap64; omega, show wrap64 384 = 384 from by unfold wrap64; omega]
  omega
set_option maxHeartbeats 800000 in
theorem part_c_12a (d a b imm op : Int) (bk : Nat) (w : World) (h0 : w.cell? ⟨bk, 0, none⟩ = some (.int .i64 op)) (h1 : w.cell? ⟨bk, 1, none⟩ = some (.int .i64 d)) (h2 : w.cell? ⟨bk, 2, none⟩ = some (.int .i64 a))
    (h3 : w.cell? ⟨bk, 3, none⟩ = some (.int .i64 b)) (h4 : w.cell? ⟨bk, 4, none⟩ = some (.int .i64 imm)) (hd : d = 12) (ha : 0 ≤ a) :
    Calls Tryd.prog 51 #[.int .u8 99, .pointer (some ⟨bk, 0, none⟩)] w fun e w' => e = .returned (.tuple #[.int .i64 6, .int .i64 10, .int .i64 (bits .or .i64 (wrap64 (d * 32)) a), .bool (condF d a)]) ∧ ∃ n, w' = w.drewN n := by
  subst hd
  have e3 : decide (0 ≤ a) = true := by simpa using ha
  go_enter Tryd.func51, Tryd.ntmps51
  go_wp2
  go_quiet (fail)
  all_goals go_wp2
  refine bodyPost_4 Tryd.results51 rfl ⟨?_, _, rfl⟩
  simp [condF, show wrap64 128 = 128 from by unfold wrap64; omega, show wrap64 384 = 384 from by unfold wrap64; omega]
  omega
set_option maxHeartbeats 800000 in
theorem part_c_12n (d a b imm op : Int) (bk : Nat) (w : World) (h0 : w.cell? ⟨bk, 0, none⟩ = some (.int .i64 op)) (h1 : w.cell? ⟨bk, 1, none⟩ = some (.int .i64 d)) (h2 : w.cell? ⟨bk, 2, none⟩ = some (.int .i64 a))
    (h3 : w.cell? ⟨bk, 3, none⟩ = some (.int .i64 b)) (h4 : w.cell? ⟨bk, 4, none⟩ = some (.int .i64 imm)) (hd : d = 12) (ha : a < 0) :
    Calls Tryd.prog 51 #[.int .u8 99, .pointer (some ⟨bk, 0, none⟩)] w fun e w' => e = .returned (.tuple #[.int .i64 6, .int .i64 10, .int .i64 (bits .or .i64 (wrap64 (d * 32)) a), .bool (condF d a)]) ∧ ∃ n, w' = w.drewN n := by
  subst hd
  have e3 : decide (0 ≤ a) = false := by simpa using ha
  go_enter Tryd.func51, Tryd.ntmps51
  go_wp2
  go_quiet (fail)
  all_goals go_wp2
  refine bodyPost_4 Tryd.results51 rfl ⟨?_, _, rfl⟩
  simp [condF, show wrap64 128 = 128 from by unfold wrap64; omega, show wrap64 384 = 384 from by unfold wrap64; omega]
  omega
set_option maxHeartbeats 800000 in
theorem part_c_x (d a b imm op : Int) (bk : Nat) (w : World) (h0 : w.cell? ⟨bk, 0, none⟩ = some (.int .i64 op)) (h1 : w.cell? ⟨bk, 1, none⟩ = some (.int .i64 d)) (h2 : w.cell? ⟨bk, 2, none⟩ = some (.int .i64 a))
    (h3 : w.cell? ⟨bk, 3, none⟩ = some (.int .i64 b)) (h4 : w.cell? ⟨bk, 4, none⟩ = some (.int .i64 imm)) (hd : Hid (d ≠ 4 ∧ d ≠ 12)) :
    Calls Tryd.prog 51 #[.int .u8 99, .pointer (some ⟨bk, 0, none⟩)] w fun e w' => e = .returned (.tuple #[.int .i64 6, .int .i64 10, .int .i64 (bits .or .i64 (wrap64 (d * 32)) a), .bool (condF d a)]) ∧ ∃ n, w' = w.drewN n := by
  have e1 : (d == 4) = false := beq_eq_false_iff_ne.2 hd.out.1
  have e2 : (d == 12) = false := beq_eq_false_iff_ne.2 hd.out.2
  go_enter Tryd.func51, Tryd.ntmps51
  go_wp2
  go_quiet (fail)
  all_goals go_wp2
  refine bodyPost_4 Tryd.results51 rfl ⟨?_, _, rfl⟩
  simp [condF]
  have := hd.out
  omega
def pFrom (f : Nat) : Int := if f = 100 then 6 else if f = 97 then 11 else if f = 98 then 16 else if f = 105 then 16 else if f = 109 then 16 else if f = 111 then 16 else 6
def pN (f : Nat) : Int := if f = 100 then 5 else if f = 97 then 5 else if f = 98 then 5 else if f = 105 then 16 else if f = 109 then 14 else if f = 111 then 14 else if f = 108 then 24 else 10
def pX (f : Nat) (d a b imm : Int) : Int := if f = 100 then d else if f = 97 then a else if f = 98 then b else if f = 105 then imm else if f = 109 then imm / 4 else if f = 111 then imm else if f = 108 then imm else bits .or .i64 (wrap64 (d * 32)) a
def pOk (f : Nat) (d a b imm : Int) : Bool := if f = 100 then regF d else if f = 97 then regF a else if f = 98 then regF b else if f = 105 then fitsF imm 16 else if f = 109 then (fitsF imm 16 && decide (imm % 4 = 0)) else if f = 111 then fitsF imm 14 else if f = 108 then fitsF imm 24 else condF d a
theorem part_any (f : Nat) (hf : f ∈ [100, 97, 98, 105, 109, 111, 108, 99]) (op d a b imm : Int) (bk : Nat) (w : World) (H : Blk w bk #[.int .i64 op, .int .i64 d, .int .i64 a, .int .i64 b, .int .i64 imm] 23) :
    Calls Tryd.prog 51 #[.int .u8 (f : Int), .pointer (some ⟨bk, 0, none⟩)] w fun e w' =>
      e = .returned (.tuple #[.int .i64 (pFrom f), .int .i64 (pN f), .int .i64 (pX f d a b imm), .bool (pOk f d a b imm)]) ∧ ∃ n, w' = w.drewN n := by
  have h0 : w.cell? ⟨bk, 0, none⟩ = some (.int .i64 op) := H.cell 0
  have h1 : w.cell? ⟨bk, 1, none⟩ = some (.int .i64 d) := H.cell 1
  have h2 : w.cell? ⟨bk, 2, none⟩ = some (.int .i64 a) := H.cell 2
  have h3 : w.cell? ⟨bk, 3, none⟩ = some (.int .i64 b) := H.cell 3
  have h4 : w.cell? ⟨bk, 4, none⟩ = some (.int .i64 imm) := H.cell 4
  simp only [List.mem_cons, List.mem_nil_iff, or_false] at hf
  rcases hf with rfl | rfl | rfl | rfl | rfl | rfl | rfl | rfl
  · exact part_d d a b imm op bk w h0 h1 h2 h3 h4
  · exact part_a d a b imm op bk w h0 h1 h2 h3 h4
  · exact part_b d a b imm op bk w h0 h1 h2 h3 h4
  · exact part_i d a b imm op bk w h0 h1 h2 h3 h4
  · cases hg : fitsF imm 16
    · exact part_m_false d a b imm op bk w h0 h1 h2 h3 h4 hg
    · exact part_m_true d a b imm op bk w h0 h1 h2 h3 h4 hg
  · exact part_o d a b imm op bk w h0 h1 h2 h3 h4
  · exact part_l d a b imm op bk w h0 h1 h2 h3 h4
  · by_cases e4 : d = 4
    · rcases Int.lt_or_le a 0 with ha | ha
      · exact part_c_4n d a b imm op bk w h0 h1 h2 h3 h4 e4 ha
      · exact part_c_4a d a b imm op bk w h0 h1 h2 h3 h4 e4 ha
    · by_cases e12 : d = 12
      · rcases Int.lt_or_le a 0 with ha | ha
        · exact part_c_12n d a b imm op bk w h0 h1 h2 h3 h4 e12 ha
        · exact part_c_12a d a b imm op bk w h0 h1 h2 h3 h4 e12 ha
      · exact part_c_x d a b imm op bk w h0 h1 h2 h3 h4 ⟨e4, e12⟩
end Go.Proofs.YtpbffmkdchiajaaDoor

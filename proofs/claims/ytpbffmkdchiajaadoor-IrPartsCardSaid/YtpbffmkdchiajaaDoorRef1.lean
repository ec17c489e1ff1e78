/-
  The walks of the reference of layer 2: ext, Of, number, Good, Encode; and of Fits of the reference of layer 1.
-/
import Derived.Test.YtpbffmkdchiajaaDoorWord
namespace Go.Proofs.YtpbffmkdchiajaaDoor
open Go.RowKit Go.Lib
structure HasF where
  nm : ByteArray
  d : Bool
  a : Bool
  b : Bool
  i : Int
  wd : Int
def hasZ : HasF := ⟨⟨#[]⟩, false, false, false, 0, 0⟩
def ofTab : List HasF := [
  ⟨⟨#[108, 100]⟩, true, true, false, 4, 3892314112⟩,
  ⟨⟨#[115, 116, 100]⟩, true, true, false, 4, 4160749568⟩,
  ⟨⟨#[97, 100, 100, 105]⟩, true, true, false, 16, 939524096⟩,
  ⟨⟨#[97, 100, 100]⟩, true, true, true, 0, 2080375316⟩,
  ⟨⟨#[115, 117, 98, 102]⟩, true, true, true, 0, 2080374864⟩,
  ⟨⟨#[109, 117, 108, 108, 100]⟩, true, true, true, 0, 2080375250⟩,
  ⟨⟨#[100, 105, 118, 100]⟩, true, true, true, 0, 2080375762⟩,
  ⟨⟨#[99, 109, 112, 100]⟩, false, true, true, 0, 2082471936⟩,
  ⟨⟨#[99, 109, 112, 100, 105]⟩, false, true, false, 16, 740294656⟩,
  ⟨⟨#[]⟩, true, true, false, 14, 1073741824⟩,
  ⟨⟨#[98]⟩, false, false, false, 24, 1207959552⟩,
  ⟨⟨#[98, 108]⟩, false, false, false, 24, 1207959553⟩,
  ⟨⟨#[98, 108, 114]⟩, false, false, false, 0, 1317011488⟩,
  ⟨⟨#[109, 102, 108, 114]⟩, true, false, false, 0, 2080899750⟩,
  ⟨⟨#[109, 116, 108, 114]⟩, true, false, false, 0, 2080900006⟩,
  ⟨⟨#[108, 100, 97, 114, 120]⟩, true, true, true, 0, 2080374952⟩,
  ⟨⟨#[115, 116, 100, 99, 120, 46]⟩, true, true, true, 0, 2080375213⟩,
  ⟨⟨#[115, 121, 110, 99]⟩, false, false, false, 0, 2080375980⟩,
  ⟨⟨#[108, 119, 115, 121, 110, 99]⟩, false, false, false, 0, 2082473132⟩,
  ⟨⟨#[105, 115, 121, 110, 99]⟩, false, false, false, 0, 1275068716⟩,
  ⟨⟨#[116, 114, 97, 112]⟩, false, false, false, 16, 266338304⟩,
  ⟨⟨#[111, 117, 116]⟩, true, false, false, 0, 1140850690⟩]
def ofOk (op : Int) : Bool := decide (1 ≤ op ∧ op ≤ 22)
def ofF (op : Int) : HasF := if 1 ≤ op ∧ op ≤ 22 then ofTab.getD (op.toNat - 1) hasZ else hasZ
def hasCells (h : HasF) : Array Value := #[.string h.nm, .bool h.d, .bool h.a, .bool h.b, .int .i64 h.i, .int .u32 h.wd]
theorem of_cases {op : Int} (h1 : 1 ≤ op) (h2 : op ≤ 22) : op = 1 ∨ op = 2 ∨ op = 3 ∨ op = 4 ∨ op = 5 ∨ op = 6 ∨ op = 7 ∨ op = 8 ∨ op = 9 ∨ op = 10 ∨ op = 11 ∨ op = 12 ∨ op = 13 ∨ op = 14 ∨ op = 15 ∨ op = 16 ∨ op = 17 ∨ op = 18 ∨ op = 19 ∨ op = 20 ∨ op = 21 ∨ op = 22 := by omega
set_option maxHeartbeats 4000000 in
theorem of_any (op : Int) (w : World) :
    Calls Tryd.prog 48 #[.int .i64 op] w fun e w' => e = .returned (.tuple #[.agg (hasCells (ofF op)), .bool (ofOk op)]) ∧ Below w.heap.size w w' := by
  have B0 := Lib.hid (Blk.new w #[.string ⟨#[]⟩, .bool false, .bool false, .bool false, .int .i64 0, .int .u32 0] 81)
  go_enter Tryd.func48, Tryd.ntmps48
  go_wp2
  · obtain rfl : op = 1 := by have h := ‹(op == 1) = true›; simpa using h
    exact bodyPost_agg2 (b := w.heap.size) Tryd.results48 rfl (Blk.new w _ 81) (fun _ => by kernel_rfl) (fun _ => by kernel_rfl) rfl ⟨rfl, (Below.refl _ _).alloc (Nat.le_refl _) _⟩
  · obtain rfl : op = 2 := by have h := ‹(op == 2) = true›; simpa using h
    exact bodyPost_agg2 (b := w.heap.size) Tryd.results48 rfl (Blk.new w _ 81) (fun _ => by kernel_rfl) (fun _ => by kernel_rfl) rfl ⟨rfl, (Below.refl _ _).alloc (Nat.le_refl _) _⟩
  · obtain rfl : op = 3 := by have h := ‹(op == 3) = true›; simpa using h
    exact bodyPost_agg2 (b := w.heap.size) Tryd.results48 rfl (Blk.new w _ 81) (fun _ => by kernel_rfl) (fun _ => by kernel_rfl) rfl ⟨rfl, (Below.refl _ _).alloc (Nat.le_refl _) _⟩
  · obtain rfl : op = 4 := by have h := ‹(op == 4) = true›; simpa using h
    exact bodyPost_agg2 (b := w.heap.size) Tryd.results48 rfl (Blk.new w _ 81) (fun _ => by kernel_rfl) (fun _ => by kernel_rfl) rfl ⟨rfl, (Below.refl _ _).alloc (Nat.le_refl _) _⟩
  · obtain rfl : op = 5 := by have h := ‹(op == 5) = true›; simpa using h
    exact bodyPost_agg2 (b := w.heap.size) Tryd.results48 rfl (Blk.new w _ 81) (fun _ => by kernel_rfl) (fun _ => by kernel_rfl) rfl ⟨rfl, (Below.refl _ _).alloc (Nat.le_refl _) _⟩
  · obtain rfl : op = 6 := by have h := ‹(op == 6) = true›; simpa using h
    exact bodyPost_agg2 (b := w.heap.size) Tryd.results48 rfl (Blk.new w _ 81) (fun _ => by kernel_rfl) (fun _ => by kernel_rfl) rfl ⟨rfl, (Below.refl _ _).alloc (Nat.le_refl _) _⟩
  · obtain rfl : op = 7 := by have h := ‹(op == 7) = true›; simpa using h
    exact bodyPost_agg2 (b := w.heap.size) Tryd.results48 rfl (Blk.new w _ 81) (fun _ => by kernel_rfl) (fun _ => by kernel_rfl) rfl ⟨rfl, (Below.refl _ _).alloc (Nat.le_refl _) _⟩
  · obtain rfl : op = 8 := by have h := ‹(op == 8) = true›; simpa using h
    exact bodyPost_agg2 (b := w.heap.size) Tryd.results48 rfl (Blk.new w _ 81) (fun _ => by kernel_rfl) (fun _ => by kernel_rfl) rfl ⟨rfl, (Below.refl _ _).alloc (Nat.le_refl _) _⟩
  · obtain rfl : op = 9 := by have h := ‹(op == 9) = true›; simpa using h
    exact bodyPost_agg2 (b := w.heap.size) Tryd.results48 rfl (Blk.new w _ 81) (fun _ => by kernel_rfl) (fun _ => by kernel_rfl) rfl ⟨rfl, (Below.refl _ _).alloc (Nat.le_refl _) _⟩
  · obtain rfl : op = 10 := by have h := ‹(op == 10) = true›; simpa using h
    exact bodyPost_agg2 (b := w.heap.size) Tryd.results48 rfl (Blk.new w _ 81) (fun _ => by kernel_rfl) (fun _ => by kernel_rfl) rfl ⟨rfl, (Below.refl _ _).alloc (Nat.le_refl _) _⟩
  · obtain rfl : op = 11 := by have h := ‹(op == 11) = true›; simpa using h
    exact bodyPost_agg2 (b := w.heap.size) Tryd.results48 rfl (Blk.new w _ 81) (fun _ => by kernel_rfl) (fun _ => by kernel_rfl) rfl ⟨rfl, (Below.refl _ _).alloc (Nat.le_refl _) _⟩
  · obtain rfl : op = 12 := by have h := ‹(op == 12) = true›; simpa using h
    exact bodyPost_agg2 (b := w.heap.size) Tryd.results48 rfl (Blk.new w _ 81) (fun _ => by kernel_rfl) (fun _ => by kernel_rfl) rfl ⟨rfl, (Below.refl _ _).alloc (Nat.le_refl _) _⟩
  · obtain rfl : op = 13 := by have h := ‹(op == 13) = true›; simpa using h
    exact bodyPost_agg2 (b := w.heap.size) Tryd.results48 rfl (Blk.new w _ 81) (fun _ => by kernel_rfl) (fun _ => by kernel_rfl) rfl ⟨rfl, (Below.refl _ _).alloc (Nat.le_refl _) _⟩
  · obtain rfl : op = 14 := by have h := ‹(op == 14) = true›; simpa using h
    exact bodyPost_agg2 (b := w.heap.size) Tryd.results48 rfl (Blk.new w _ 81) (fun _ => by kernel_rfl) (fun _ => by kernel_rfl) rfl ⟨rfl, (Below.refl _ _).alloc (Nat.le_refl _) _⟩
  · obtain rfl : op = 15 := by have h := ‹(op == 15) = true›; simpa using h
    exact bodyPost_agg2 (b := w.heap.size) Tryd.results48 rfl (Blk.new w _ 81) (fun _ => by kernel_rfl) (fun _ => by kernel_rfl) rfl ⟨rfl, (Below.refl _ _).alloc (Nat.le_refl _) _⟩
  · obtain rfl : op = 16 := by have h := ‹(op == 16) = true›; simpa using h
    exact bodyPost_agg2 (b := w.heap.size) Tryd.results48 rfl (Blk.new w _ 81) (fun _ => by kernel_rfl) (fun _ => by kernel_rfl) rfl ⟨rfl, (Below.refl _ _).alloc (Nat.le_refl _) _⟩
  · obtain rfl : op = 17 := by have h := ‹(op == 17) = true›; simpa using h
    exact bodyPost_agg2 (b := w.heap.size) Tryd.results48 rfl (Blk.new w _ 81) (fun _ => by kernel_rfl) (fun _ => by kernel_rfl) rfl ⟨rfl, (Below.refl _ _).alloc (Nat.le_refl _) _⟩
  · obtain rfl : op = 18 := by have h := ‹(op == 18) = true›; simpa using h
    exact bodyPost_agg2 (b := w.heap.size) Tryd.results48 rfl (Blk.new w _ 81) (fun _ => by kernel_rfl) (fun _ => by kernel_rfl) rfl ⟨rfl, (Below.refl _ _).alloc (Nat.le_refl _) _⟩
  · obtain rfl : op = 19 := by have h := ‹(op == 19) = true›; simpa using h
    exact bodyPost_agg2 (b := w.heap.size) Tryd.results48 rfl (Blk.new w _ 81) (fun _ => by kernel_rfl) (fun _ => by kernel_rfl) rfl ⟨rfl, (Below.refl _ _).alloc (Nat.le_refl _) _⟩
  · obtain rfl : op = 20 := by have h := ‹(op == 20) = true›; simpa using h
    exact bodyPost_agg2 (b := w.heap.size) Tryd.results48 rfl (Blk.new w _ 81) (fun _ => by kernel_rfl) (fun _ => by kernel_rfl) rfl ⟨rfl, (Below.refl _ _).alloc (Nat.le_refl _) _⟩
  · obtain rfl : op = 21 := by have h := ‹(op == 21) = true›; simpa using h
    exact bodyPost_agg2 (b := w.heap.size) Tryd.results48 rfl (Blk.new w _ 81) (fun _ => by kernel_rfl) (fun _ => by kernel_rfl) rfl ⟨rfl, (Below.refl _ _).alloc (Nat.le_refl _) _⟩
  · obtain rfl : op = 22 := by have h := ‹(op == 22) = true›; simpa using h
    exact bodyPost_agg2 (b := w.heap.size) Tryd.results48 rfl (Blk.new w _ 81) (fun _ => by kernel_rfl) (fun _ => by kernel_rfl) rfl ⟨rfl, (Below.refl _ _).alloc (Nat.le_refl _) _⟩
  · have hne : ¬ (1 ≤ op ∧ op ≤ 22) := by
      intro ⟨h1, h2⟩
      have h := of_cases h1 h2
      rcases h with h | h | h | h | h | h | h | h | h | h | h | h | h | h | h | h | h | h | h | h | h | h <;> subst h <;> contradiction
    refine bodyPost_agg2 (b := w.heap.size) Tryd.results48 rfl (Blk.new w _ 81) (fun _ => by kernel_rfl) (fun _ => by kernel_rfl) rfl ⟨?_, (Below.refl _ _).alloc (Nat.le_refl _) _⟩
    rw [ofF, if_neg hne, ofOk, decide_eq_false hne]
    rfl
def numF (has : Bool) (n : Int) : Bool := (has && decide (0 ≤ n ∧ n ≤ 31)) || (!has && decide (n = 0))
set_option maxHeartbeats 400000 in
theorem number_any (has : Bool) (n : Int) (w : World) :
    Calls Tryd.prog 49 #[.bool has, .int .i64 n] w fun e w' => e = .returned (.bool (numF has n)) ∧ w = w' := by
  cases has
  all_goals
    go_enter Tryd.func49, Tryd.ntmps49
    go_wp2
    all_goals (go_ret; exact ⟨ret_bool (by simp [numF]; try omega), rfl⟩)
def FitRel (k : Nat) (lo hi : Value) : Prop := lo = .int .i64 (-(2 ^ k)) ∧ hi = .int .i64 (2 ^ k - 1)
set_option maxHeartbeats 400000 in
theorem fits1_any (x : Int) (n : Nat) (w : World) (h1 : 1 ≤ n) (h2 : n ≤ 62) :
    Calls Tryd.prog 50 #[.int .i64 x, .int .i64 (n : Int)] w fun e w' => e = .returned (.bool (fitsF x n)) ∧ w = w' := by
  go_enter Tryd.func50, Tryd.ntmps50
  go_wp2
  go_loop [5, 6, 7] (fun lo hi i => ∃ k : Nat, k + 1 ≤ n ∧ i = .int .i64 (k + 1) ∧ FitRel k lo hi) (fun _ _ i => n - (intOf i).toNat)
  case atStart => exact ⟨0, by omega, by simp, by simp [FitRel]⟩
  case round =>
    obtain ⟨k, hk, rfl, hf⟩ := hrel
    obtain ⟨rfl, rfl⟩ := hf
    have p1 : (2 : Int) ^ k < 4611686018427387904 := by
      have := pow_le62 (k := k + 1) (by omega)
      rw [two_pow]
      rw [Nat.pow_succ] at this
      omega
    have p0 : (1 : Int) ≤ 2 ^ k := by rw [two_pow]; exact Int.ofNat_le.2 (Nat.one_le_two_pow)
    have Hp : Hid ((2 : Int) ^ (k + 1) = 2 * 2 ^ k) := by show _ = _; rw [Int.pow_succ]; omega
    generalize hP : (2 : Int) ^ k = P at *
    have HP := Lib.hid hP
    clear hP
    by_cases hlt : k + 1 < n
    · go_wp2
      go_round
      case rel => exact ⟨k + 1, by omega, by go_num, by rw [FitRel, Hp.out]; exact ⟨by go_num, by go_num⟩⟩
      case measure => simp [intOf]; omega
    · have hkn : n = k + 1 := by omega
      have Hk := Lib.hid hkn
      clear hkn
      go_wp2
      all_goals
        go_ret
        refine ⟨ret_bool ?_, rfl⟩
        have e : (n : Int).toNat - 1 = k := by have := Hk.out; omega
        rw [fitsF, e, HP.out]
        simp
        try omega
end Go.Proofs.YtpbffmkdchiajaaDoor

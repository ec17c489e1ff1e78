/-
  The walks of package word: what each function answers, for all arguments that its callers use.
-/
import Derived.Test.YtpbffmkdchiajaaDoorRows
import Derived.Test.YtpbffmkdchiajaaDoorBase
import Derived.Laws.BitsLemmas
namespace Go.Proofs.YtpbffmkdchiajaaDoor
open Go.RowKit
def maskF (n : Int) : Int := if 32 ≤ n then 4294967295 else 2 ^ n.toNat - 1
theorem pow_le31 {k : Nat} (h : k < 32) : (2 : Nat) ^ k < 4294967296 :=
  Nat.lt_of_le_of_lt (Nat.pow_le_pow_right (by omega) (show k ≤ 31 by omega)) (by decide)
theorem pow_le62 {k : Nat} (h : k < 63) : (2 : Nat) ^ k < 9223372036854775808 :=
  Nat.lt_of_le_of_lt (Nat.pow_le_pow_right (by omega) (show k ≤ 62 by omega)) (by decide)
theorem two_pow (k : Nat) : (2 : Int) ^ k = ((2 ^ k : Nat) : Int) := by simp
theorem maskF_small {n : Int} (h : n < 32) : (2 ^ n.toNat - 1) % 4294967296 = maskF n := by
  have hk : n.toNat < 32 := by omega
  have h1 := pow_le31 hk
  have h2 : 1 ≤ 2 ^ n.toNat := Nat.one_le_two_pow
  rw [maskF, if_neg (by omega), two_pow]
  omega
theorem maskF_neg {n : Int} (h : n < 0) : 0 = maskF n := by
  rw [maskF, if_neg (by omega), show n.toNat = 0 from by omega]; rfl
set_option maxHeartbeats 400000 in
theorem mask_any (n : Int) (w : World) :
    Calls Tryd.prog 113 #[.int .i64 n] w fun e w' => e = .returned (.int .u32 (maskF n)) ∧ w = w' := by
  go_enter Tryd.func113, Tryd.ntmps113
  go_wp2
  · go_ret; exact ⟨ret_int (by rw [maskF, if_pos (by assumption)]), rfl⟩
  · go_ret; exact ⟨ret_int (maskF_neg (by assumption)), rfl⟩
  · go_ret; exact ⟨ret_int (maskF_small (by assumption)), rfl⟩
def goodF (a n : Int) : Bool := decide (0 ≤ a ∧ 0 ≤ n ∧ a ≤ 32 ∧ n ≤ 32 - a)
set_option maxHeartbeats 400000 in
theorem good_any (a n : Int) (w : World) :
    Calls Tryd.prog 112 #[.int .i64 a, .int .i64 n] w fun e w' => e = .returned (.bool (goodF a n)) ∧ w = w' := by
  go_enter Tryd.func112, Tryd.ntmps112
  go_wp2
  all_goals (go_ret; exact ⟨ret_bool (by simp [goodF]; try omega), rfl⟩)
set_option maxHeartbeats 400000 in
theorem bits_any (a n : Int) (w : World) :
    Calls Tryd.prog 53 #[.int .i64 a, .int .i64 n] w fun e w' => e = .returned (.int .u32 (bits .and .u32 (a % 4294967296) (maskF n))) ∧ w = w' := by
  go_enter Tryd.func53, Tryd.ntmps53
  go_wp2_with (go_at_call 113; refine (mask_any _ _).mono ?_; rintro e w' ⟨rfl, rfl⟩)
  go_ret
  exact ⟨rfl, rfl⟩
def getF (x a n : Int) : Int := bits .and .u32 (x / 2 ^ (32 - a - n).toNat) (maskF n)
set_option maxHeartbeats 400000 in
theorem get_any (x a n : Int) (w : World) (h1 : 0 ≤ a) (h2 : 0 ≤ n) (h3 : a + n ≤ 32) :
    Calls Tryd.prog 119 #[.int .u32 x, .int .i64 a, .int .i64 n] w fun e w' => e = .returned (.int .u32 (getF x a n)) ∧ ∃ m, w' = w.drewN m := by
  have hg : goodF a n = true := by simp [goodF]; omega
  have h4 : 0 ≤ 32 - a - n := by omega
  have h5 : 32 - a - n ≤ 32 := by omega
  go_enter Tryd.func119, Tryd.ntmps119
  go_wp2_with (go_at_call 112; refine (good_any _ _ _).mono ?_; rintro e w' ⟨rfl, rfl⟩)
  go_quiet ((go_at_call 113; exact quiet_same (mask_any _ _)))
  go_wp2
  go_ret
  exact ⟨rfl, _, rfl⟩
def putF (x a n y : Int) : Int :=
  bits .or .u32 (bits .andNot .u32 x (maskF n * 2 ^ (32 - a - n).toNat % 4294967296)) (bits .and .u32 y (maskF n) * 2 ^ (32 - a - n).toNat % 4294967296)
set_option maxHeartbeats 400000 in
theorem put_any (x a n y : Int) (w : World) (h1 : 0 ≤ a) (h2 : 0 ≤ n) (h3 : a + n ≤ 32) :
    Calls Tryd.prog 52 #[.int .u32 x, .int .i64 a, .int .i64 n, .int .u32 y] w fun e w' => e = .returned (.int .u32 (putF x a n y)) ∧ ∃ m, w' = w.drewN m := by
  have hg : goodF a n = true := by simp [goodF]; omega
  have h4 : 0 ≤ 32 - a - n := by omega
  have h5 : 32 - a - n ≤ 32 := by omega
  go_enter Tryd.func52, Tryd.ntmps52
  go_wp2_with (go_at_call 112; refine (good_any _ _ _).mono ?_; rintro e w' ⟨rfl, rfl⟩)
  go_quiet ((go_at_call 113; exact quiet_same (mask_any _ _)))
  go_wp2
  go_ret
  exact ⟨rfl, _, rfl⟩
def signedF (x n : Int) : Int :=
  if bits .and .u32 x (maskF n) / 2 ^ (n.toNat - 1) = 1 then bits .and .u32 x (maskF n) - 2 ^ n.toNat else bits .and .u32 x (maskF n)
set_option maxHeartbeats 400000 in
theorem signed_any (x n : Int) (w : World) (h1 : 1 ≤ n) (h2 : n ≤ 32) (b0 : 0 ≤ bits .and .u32 x (maskF n)) (b1 : bits .and .u32 x (maskF n) < 4294967296) :
    Calls Tryd.prog 120 #[.int .u32 x, .int .i64 n] w fun e w' => e = .returned (.int .i64 (signedF x n)) ∧ w = w' := by
  have hp : (2 : Int) ^ n.toNat ≤ 4294967296 := by
    have : (2 : Nat) ^ n.toNat ≤ 2 ^ 32 := Nat.pow_le_pow_right (by omega) (by omega)
    rw [two_pow]; exact Int.ofNat_le.2 this
  have hp0 : (0 : Int) ≤ (2 : Int) ^ n.toNat := by rw [two_pow]; exact Int.natCast_nonneg _
  have e1 : wrap64 (bits .and .u32 x (maskF n)) = bits .and .u32 x (maskF n) := by unfold wrap64; omega
  have e2 : wrap64 (2 ^ n.toNat) = 2 ^ n.toNat := by unfold wrap64; omega
  have e3 : wrap64 (bits .and .u32 x (maskF n) - 2 ^ n.toNat) = bits .and .u32 x (maskF n) - 2 ^ n.toNat := by unfold wrap64; omega
  clear b0 b1 hp hp0
  go_enter Tryd.func120, Tryd.ntmps120
  go_wp2_with (go_at_call 113; refine (mask_any _ _).mono ?_; rintro e w' ⟨rfl, rfl⟩)
  · go_ret
    exact ⟨ret_int (by rw [signedF, if_pos (by simpa using ‹(_ == (1 : Int)) = true›)]; exact e3), rfl⟩
  · go_ret
    exact ⟨ret_int (by rw [signedF, if_neg (by simpa using ‹(_ == (1 : Int)) = false›)]; exact e1), rfl⟩
def fitsF (x n : Int) : Bool := decide (-(2 ^ (n.toNat - 1)) ≤ x ∧ x < 2 ^ (n.toNat - 1))
set_option maxHeartbeats 400000 in
theorem fits_any (x n : Int) (w : World) (h1 : 1 ≤ n) (h2 : n ≤ 63) :
    Calls Tryd.prog 111 #[.int .i64 x, .int .i64 n] w fun e w' => e = .returned (.bool (fitsF x n)) ∧ w = w' := by
  have h3 : (2 : Int) ^ (n.toNat - 1) < 9223372036854775808 := by have := pow_le62 (k := n.toNat - 1) (by omega); rw [two_pow]; exact Int.ofNat_lt.2 this
  have h4 : (0 : Int) ≤ 2 ^ (n.toNat - 1) := by rw [two_pow]; exact Int.natCast_nonneg _
  have e1 : wrap64 (2 ^ (n.toNat - 1)) = 2 ^ (n.toNat - 1) := by unfold wrap64; omega
  have e2 : wrap64 (-2 ^ (n.toNat - 1)) = -2 ^ (n.toNat - 1) := by unfold wrap64; omega
  clear h3 h4
  go_enter Tryd.func111, Tryd.ntmps111
  go_wp2
  all_goals (go_ret; exact ⟨ret_bool (by simp [fitsF]; try omega), rfl⟩)
theorem fits_val (x n : Int) (w : World) (h1 : 1 ≤ n) (h2 : n ≤ 63) (c : Bool) (h : fitsF x n = c) :
    Calls Tryd.prog 111 #[.int .i64 x, .int .i64 n] w fun e w' => e = .returned (.bool c) ∧ w = w' := by
  subst h; exact fits_any x n w h1 h2
theorem wraps_u32 (n : Int) (h₀ : 0 ≤ n) (h₁ : n < 2 ^ 32) : IntKind.u32.wrap n = n := by rw [IntKind.wrap_u32]; omega
theorem maskF_lt {n : Nat} (h : n < 32) : maskF (n : Int) = 2 ^ n - 1 := by rw [maskF, if_neg (by omega)]; simp
theorem and_mask (x : Int) (n : Nat) (h : n < 32) (h0 : 0 ≤ x) (h1 : x < 4294967296) : bits .and .u32 x (maskF (n : Int)) = x % 2 ^ n := by
  rw [maskF_lt h]
  exact bits_mask .u32 32 (by decide) wraps_u32 n (by omega) x h0 h1
theorem getF_eq (x : Int) (a n : Nat) (hn : n < 32) (ha : a + n ≤ 32) (h0 : 0 ≤ x) (h1 : x < 4294967296) : getF x a n = x / 2 ^ (32 - a - n) % 2 ^ n := by
  have e : ((32 : Int) - a - n).toNat = 32 - a - n := by omega
  have hp : (0 : Int) < 2 ^ (32 - a - n) := by rw [two_pow]; exact Int.ofNat_lt.2 (Nat.two_pow_pos _)
  have hd0 : 0 ≤ x / 2 ^ (32 - a - n) := Int.ediv_nonneg h0 (Int.le_of_lt hp)
  have hd1 : x / 2 ^ (32 - a - n) < 4294967296 := Int.lt_of_le_of_lt (Int.ediv_le_self _ h0) h1
  rw [getF, e, and_mask _ _ hn hd0 hd1]
theorem pow_pos' (n : Nat) : (0 : Int) < 2 ^ n := by rw [two_pow]; exact Int.ofNat_lt.2 (Nat.two_pow_pos _)
theorem getF_rng (x : Int) (a n : Nat) (hn : n < 32) (ha : a + n ≤ 32) (h0 : 0 ≤ x) (h1 : x < 4294967296) : 0 ≤ getF x a n ∧ getF x a n < 2 ^ n := by
  rw [getF_eq x a n hn ha h0 h1]
  exact ⟨Int.emod_nonneg _ (Int.ne_of_gt (pow_pos' n)), Int.emod_lt_of_pos _ (pow_pos' n)⟩
theorem and_rng (x : Int) (n : Nat) (h : n < 32) (h0 : 0 ≤ x) (h1 : x < 4294967296) : 0 ≤ bits .and .u32 x (maskF (n : Int)) ∧ bits .and .u32 x (maskF (n : Int)) < 4294967296 := by
  rw [and_mask x n h h0 h1]
  refine ⟨Int.emod_nonneg _ (Int.ne_of_gt (pow_pos' n)), ?_⟩
  have h2 := Int.emod_lt_of_pos x (pow_pos' n)
  have h3 := pow_le31 h
  have h4 : (2 : Int) ^ n < 4294967296 := by rw [two_pow]; exact Int.ofNat_lt.2 h3
  omega
theorem signedF_eq (x : Int) (n : Nat) (hn0 : 1 ≤ n) (h : n < 32) (h0 : 0 ≤ x) (h1 : x < 4294967296) : signedF x n = if x % 2 ^ n / 2 ^ (n - 1) = 1 then x % 2 ^ n - 2 ^ n else x % 2 ^ n := by
  rw [signedF, and_mask x n h h0 h1]
  simp
theorem signedF_rng (x : Int) (n : Nat) (hn0 : 1 ≤ n) (h : n < 32) (h0 : 0 ≤ x) (h1 : x < 4294967296) : -4294967296 ≤ signedF x n ∧ signedF x n < 4294967296 := by
  have hb := and_rng x n h h0 h1
  rw [and_mask x n h h0 h1] at hb
  have h4 : (2 : Int) ^ n < 4294967296 := by rw [two_pow]; exact Int.ofNat_lt.2 (pow_le31 h)
  have h5 := pow_pos' n
  rw [signedF_eq x n hn0 h h0 h1]
  split <;> omega
theorem sgn_any (x : Int) (n : Nat) (w : World) (h1 : 1 ≤ n) (h2 : n < 32) (b0 : 0 ≤ x) (b1 : x < 4294967296) :
    Calls Tryd.prog 120 #[.int .u32 x, .int .i64 (n : Int)] w fun e w' => e = .returned (.int .i64 (signedF x n)) ∧ w = w' :=
  signed_any x n w (by omega) (by omega) (and_rng x n h2 b0 b1).1 (and_rng x n h2 b0 b1).2
theorem and3 (x : Int) : (bits .and .i64 x 3 == 0) = decide (x % 4 = 0) := by
  have e1 : (BitVec.ofInt 64 x &&& BitVec.ofInt 64 3).toNat = (x % 4).toNat := by
    rw [BitVec.toNat_and]
    have h3 : (BitVec.ofInt 64 3).toNat = 2 ^ 2 - 1 := by decide
    rw [h3, Nat.and_two_pow_sub_one_eq_mod, BitVec.toNat_ofInt]
    simp
    omega
  have h0 : 0 ≤ x % 4 := by omega
  have h1 : x % 4 < 4 := by omega
  have e2 : bits .and .i64 x 3 = x % 4 := by
    show IntKind.i64.wrap ((BitVec.ofInt 64 x &&& BitVec.ofInt 64 3).toNat : Int) = _
    rw [e1, IntKind.wrap_i64]
    omega
  rw [e2]
  by_cases h : x % 4 = 0 <;> simp [h]
end Go.Proofs.YtpbffmkdchiajaaDoor

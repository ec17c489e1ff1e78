/-
  The plain law of package isa, second part: with the program's own table Encode is the reference's.
-/
import Derived.Test.YtpbffmkdchiajaaDoorPure1
import Derived.Laws.BitsAllLaws
namespace Go.Proofs.YtpbffmkdchiajaaDoor
open Go.RowKit
theorem or_add (a b : Nat) (ha : a < 4294967296) (hb : b < 4294967296) (h : a &&& b = 0) (hs : a + b < 4294967296) : a ||| b = a + b := by
  have h1 : (BitVec.ofNat 32 a) &&& (BitVec.ofNat 32 b) = 0#32 := by
    apply BitVec.eq_of_toNat_eq
    rw [BitVec.toNat_and, BitVec.toNat_ofNat, BitVec.toNat_ofNat, Nat.mod_eq_of_lt ha, Nat.mod_eq_of_lt hb, h]
    rfl
  have h2 := congrArg BitVec.toNat (BitVec.add_eq_or_of_and_eq_zero _ _ h1)
  rw [BitVec.toNat_add, BitVec.toNat_or, BitVec.toNat_ofNat, BitVec.toNat_ofNat, Nat.mod_eq_of_lt (show a < 2 ^ 32 from ha), Nat.mod_eq_of_lt (show b < 2 ^ 32 from hb), Nat.mod_eq_of_lt (show a + b < 2 ^ 32 from hs)] at h2
  exact h2.symm
theorem field_bit (a s n i : Nat) (h : a / 2 ^ s % 2 ^ n = 0) (h1 : s ≤ i) (h2 : i < s + n) : a.testBit i = false := by
  have h3 : (a / 2 ^ s % 2 ^ n).testBit (i - s) = a.testBit i := by
    rw [Nat.testBit_mod_two_pow, Nat.testBit_div_two_pow]
    rw [decide_eq_true (show i - s < n by omega), show i - s + s = i by omega]
    rfl
  rw [← h3, h]
  simp
theorem mask_bit (s n i : Nat) : ((2 ^ n - 1) * 2 ^ s).testBit i = (decide (s ≤ i) && decide (i - s < n)) := by
  rw [Nat.testBit_mul_two_pow, Nat.testBit_two_pow_sub_one]
theorem and_not_field (a s n : Nat) (ha : a < 4294967296) (hn : s + n ≤ 32) (h : a / 2 ^ s % 2 ^ n = 0) : a &&& (4294967295 - (2 ^ n - 1) * 2 ^ s) = a := by
  have hm : (2 ^ n - 1) * 2 ^ s < 2 ^ 32 := by
    have h1 : (2 ^ n - 1) * 2 ^ s < 2 ^ n * 2 ^ s := Nat.mul_lt_mul_of_pos_right (Nat.sub_lt (Nat.two_pow_pos _) (by omega)) (Nat.two_pow_pos _)
    rw [← Nat.pow_add] at h1
    exact Nat.lt_of_lt_of_le h1 (Nat.pow_le_pow_right (by omega) (by omega))
  apply Nat.eq_of_testBit_eq
  intro i
  rw [Nat.testBit_and, show 4294967295 - (2 ^ n - 1) * 2 ^ s = 2 ^ 32 - ((2 ^ n - 1) * 2 ^ s + 1) by omega, Nat.testBit_two_pow_sub_succ hm, mask_bit]
  by_cases hi : i < 32
  · by_cases h1 : s ≤ i
    · by_cases h2 : i < s + n
      · rw [field_bit a s n i h h1 h2]; rfl
      · simp [hi, show ¬ i - s < n by omega]
    · simp [hi, h1]
  · have : a.testBit i = false := Nat.testBit_lt_two_pow (Nat.lt_of_lt_of_le ha (Nat.pow_le_pow_right (by omega : 2 > 0) (by omega : 32 ≤ i)))
    simp [this]
theorem and_field (a s n y : Nat) (hy : y < 2 ^ n) (h : a / 2 ^ s % 2 ^ n = 0) : a &&& y * 2 ^ s = 0 := by
  apply Nat.eq_of_testBit_eq
  intro i
  rw [Nat.testBit_and, Nat.testBit_mul_two_pow, Nat.zero_testBit]
  by_cases h1 : s ≤ i
  · by_cases h2 : i < s + n
    · rw [field_bit a s n i h h1 h2]; rfl
    · have : y.testBit (i - s) = false := Nat.testBit_lt_two_pow (Nat.lt_of_lt_of_le hy (Nat.pow_le_pow_right (by omega) (by omega)))
      simp [this]
  · simp [h1]
/-- 'Put' into a part that holds nothing yet adds the number there. -/
theorem putF_add (x : Int) (a n s : Nat) (y : Int) (hs : a + n + s = 32) (hn : n < 32) (h0 : 0 ≤ x) (h1 : x < 4294967296) (y0 : 0 ≤ y) (y1 : y < 2 ^ n) (h : x / 2 ^ s % 2 ^ n = 0) (hx : x + y * 2 ^ s < 4294967296) :
    putF x a n y = x + y * 2 ^ s := by
  obtain ⟨X, rfl⟩ := Int.eq_ofNat_of_zero_le h0
  obtain ⟨Y, rfl⟩ := Int.eq_ofNat_of_zero_le y0
  have hX : X < 4294967296 := by omega
  have hY : Y < 2 ^ n := by exact_mod_cast y1
  have hf : X / 2 ^ s % 2 ^ n = 0 := by exact_mod_cast h
  have hY32 : Y < 4294967296 := Nat.lt_trans hY (pow_le31 hn)
  have hm : (2 ^ n - 1) * 2 ^ s < 4294967296 := by
    have h1 : (2 ^ n - 1) * 2 ^ s < 2 ^ n * 2 ^ s := Nat.mul_lt_mul_of_pos_right (Nat.sub_lt (Nat.two_pow_pos _) (by omega)) (Nat.two_pow_pos _)
    rw [← Nat.pow_add] at h1
    exact Nat.lt_of_lt_of_le h1 (Nat.pow_le_pow_right (by omega) (show n + s ≤ 32 by omega))
  have hsum : X + Y * 2 ^ s < 4294967296 := by
    rw [two_pow, ← Int.natCast_mul, ← Int.natCast_add] at hx
    exact Int.ofNat_lt.1 (show ((X + Y * 2 ^ s : Nat) : Int) < ((4294967296 : Nat) : Int) from hx)
  have e : ((32 : Int) - a - n).toNat = s := by omega
  have e1 : maskF (n : Int) * 2 ^ s % 4294967296 = (((2 ^ n - 1) * 2 ^ s : Nat) : Int) := by
    rw [maskF_lt hn]
    have hc : ((2 : Int) ^ n - 1) = ((2 ^ n - 1 : Nat) : Int) := by rw [Int.natCast_sub Nat.one_le_two_pow]; simp
    rw [hc, two_pow, ← Int.natCast_mul]
    omega
  have e2 : bits .and .u32 (Y : Int) (maskF (n : Int)) * 2 ^ s % 4294967296 = ((Y * 2 ^ s : Nat) : Int) := by
    rw [and_mask _ n hn (by omega) (by omega), two_pow, ← Int.natCast_emod, Nat.mod_eq_of_lt hY, two_pow, ← Int.natCast_mul]
    omega
  rw [putF, e, e1, e2, u32_andNot_nat _ _ hX hm, and_not_field X s n hX (by omega) hf, u32_or_nat _ _ hX (by omega), or_add _ _ hX (by omega) (and_field X s n Y hY hf) hsum]
  rw [two_pow, ← Int.natCast_mul, ← Int.natCast_add]
/-- one step of 'Encode', a part that holds nothing yet -/
theorem put_bits (x X : Int) (a n s : Nat) (hs : a + n + s = 32) (hn : n < 32) (h0 : 0 ≤ x) (h1 : x < 4294967296) (h : x / 2 ^ s % 2 ^ n = 0) (hx : x + (X % 2 ^ n) * 2 ^ s < 4294967296) :
    putF x a n (bits .and .u32 (X % 4294967296) (maskF (n : Int))) = x + (X % 2 ^ n) * 2 ^ s := by
  have hd : ((2 : Int) ^ n) ∣ 4294967296 := by
    have : (2 : Nat) ^ n ∣ 2 ^ 32 := Nat.pow_dvd_pow 2 (by omega)
    rw [two_pow]; exact Int.natCast_dvd_natCast.2 (show 2 ^ n ∣ 4294967296 from this)
  have e : bits .and .u32 (X % 4294967296) (maskF (n : Int)) = X % 2 ^ n := by
    rw [and_mask _ n hn (Int.emod_nonneg _ (by omega)) (Int.emod_lt_of_pos _ (by omega)), Int.emod_emod_of_dvd _ hd]
  rw [e]
  exact putF_add x a n s _ hs hn h0 h1 (Int.emod_nonneg _ (Int.ne_of_gt (pow_pos' n))) (Int.emod_lt_of_pos _ (pow_pos' n)) h hx
end Go.Proofs.YtpbffmkdchiajaaDoor

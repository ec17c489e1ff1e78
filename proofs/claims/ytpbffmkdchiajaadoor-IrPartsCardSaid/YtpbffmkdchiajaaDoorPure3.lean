/-
  The plain law of package isa, third part: with the program's own table Encode is the reference's.
-/
import Derived.Test.YtpbffmkdchiajaaDoorPure2
namespace Go.Proofs.YtpbffmkdchiajaaDoor
open Go.RowKit
theorem st_d (d a b imm x : Int) (h0 : 0 ≤ x) (h1 : x < 4294967296) (h : x / 2097152 % 32 = 0) (hx : x + d % 32 * 2097152 < 4294967296) : encStep d a b imm x 100 = x + d % 32 * 2097152 :=
  put_bits x d 6 5 21 rfl (by omega) h0 h1 h hx
theorem st_a (d a b imm x : Int) (h0 : 0 ≤ x) (h1 : x < 4294967296) (h : x / 65536 % 32 = 0) (hx : x + a % 32 * 65536 < 4294967296) : encStep d a b imm x 97 = x + a % 32 * 65536 :=
  put_bits x a 11 5 16 rfl (by omega) h0 h1 h hx
theorem st_b (d a b imm x : Int) (h0 : 0 ≤ x) (h1 : x < 4294967296) (h : x / 2048 % 32 = 0) (hx : x + b % 32 * 2048 < 4294967296) : encStep d a b imm x 98 = x + b % 32 * 2048 :=
  put_bits x b 16 5 11 rfl (by omega) h0 h1 h hx
theorem st_i (d a b imm x : Int) (h0 : 0 ≤ x) (h1 : x < 4294967296) (h : x / 1 % 65536 = 0) (hx : x + imm % 65536 * 1 < 4294967296) : encStep d a b imm x 105 = x + imm % 65536 * 1 :=
  put_bits x imm 16 16 0 rfl (by omega) h0 h1 h hx
theorem st_m (d a b imm x : Int) (h0 : 0 ≤ x) (h1 : x < 4294967296) (h : x / 4 % 16384 = 0) (hx : x + (imm / 4) % 16384 * 4 < 4294967296) : encStep d a b imm x 109 = x + (imm / 4) % 16384 * 4 :=
  put_bits x (imm / 4) 16 14 2 rfl (by omega) h0 h1 h hx
theorem st_o (d a b imm x : Int) (h0 : 0 ≤ x) (h1 : x < 4294967296) (h : x / 4 % 16384 = 0) (hx : x + imm % 16384 * 4 < 4294967296) : encStep d a b imm x 111 = x + imm % 16384 * 4 :=
  put_bits x imm 16 14 2 rfl (by omega) h0 h1 h hx
theorem st_l (d a b imm x : Int) (h0 : 0 ≤ x) (h1 : x < 4294967296) (h : x / 4 % 16777216 = 0) (hx : x + imm % 16777216 * 4 < 4294967296) : encStep d a b imm x 108 = x + imm % 16777216 * 4 :=
  put_bits x imm 6 24 2 rfl (by omega) h0 h1 h hx
theorem st_c (d a b imm x : Int) (hd : d = 4 ∨ d = 12) (ha : 0 ≤ a) (ha' : a < 3) (h0 : 0 ≤ x) (h1 : x < 4294967296) (h : x / 65536 % 1024 = 0) (hx : x + (d * 32 + a) * 65536 < 4294967296) : encStep d a b imm x 99 = x + (d * 32 + a) * 65536 := by
  have e : bits .or .i64 (wrap64 (d * 32)) a = d * 32 + a := by
    obtain rfl | rfl | rfl : a = 0 ∨ a = 1 ∨ a = 2 := by omega
    all_goals
      rcases hd with rfl | rfl
      all_goals decide +kernel
  have hk := put_bits x (d * 32 + a) 6 10 16 rfl (by omega) h0 h1 h (by
    have : (d * 32 + a) % 2 ^ 10 = d * 32 + a := by omega
    rw [this]; exact hx)
  have h2 : (d * 32 + a) % 2 ^ 10 = d * 32 + a := by omega
  rw [h2] at hk
  show putF x 6 10 (bits .and .u32 (bits .or .i64 (wrap64 (d * 32)) a % 4294967296) (maskF 10)) = _
  rw [e]
  exact hk
theorem bnd_1 (d a b imm : Int) (h : goodR 1 d a b imm = true) : (0 ≤ d ∧ d ≤ 31) ∧ (0 ≤ a ∧ a ≤ 31) ∧ (b = 0) ∧ (imm % 4 = 0 ∧ -32768 ≤ imm ∧ imm < 32768) := by
  simp [tmod4, goodR, of_1, ofOk, numF, condBad, immOk, fits_16, fits_14, fits_24] at h
  omega
theorem en_1 (d a b imm : Int) (h : goodR 1 d a b imm = true) : encI flT wtT 1 d a b imm = encR 1 d a b imm := by
  have hb := bnd_1 d a b imm h
  show encStep d a b imm (encStep d a b imm (encStep d a b imm (3892314112) 100) 97) 109 = (3892314112 + d * 2097152 + a * 65536 + b * 2048 + (imm + 65536).tmod 65536) % 4294967296
  rw [st_d d a b imm (3892314112) (by omega) (by omega) (by omega) (by omega), st_a d a b imm (3892314112 + d % 32 * 2097152) (by omega) (by omega) (by omega) (by omega), st_m d a b imm (3892314112 + d % 32 * 2097152 + a % 32 * 65536) (by omega) (by omega) (by omega) (by omega)]
  rw [Int.tmod_eq_emod_of_nonneg (by omega)]
  omega
theorem bnd_2 (d a b imm : Int) (h : goodR 2 d a b imm = true) : (0 ≤ d ∧ d ≤ 31) ∧ (0 ≤ a ∧ a ≤ 31) ∧ (b = 0) ∧ (imm % 4 = 0 ∧ -32768 ≤ imm ∧ imm < 32768) := by
  simp [tmod4, goodR, of_2, ofOk, numF, condBad, immOk, fits_16, fits_14, fits_24] at h
  omega
theorem en_2 (d a b imm : Int) (h : goodR 2 d a b imm = true) : encI flT wtT 2 d a b imm = encR 2 d a b imm := by
  have hb := bnd_2 d a b imm h
  show encStep d a b imm (encStep d a b imm (encStep d a b imm (4160749568) 100) 97) 109 = (4160749568 + d * 2097152 + a * 65536 + b * 2048 + (imm + 65536).tmod 65536) % 4294967296
  rw [st_d d a b imm (4160749568) (by omega) (by omega) (by omega) (by omega), st_a d a b imm (4160749568 + d % 32 * 2097152) (by omega) (by omega) (by omega) (by omega), st_m d a b imm (4160749568 + d % 32 * 2097152 + a % 32 * 65536) (by omega) (by omega) (by omega) (by omega)]
  rw [Int.tmod_eq_emod_of_nonneg (by omega)]
  omega
theorem bnd_3 (d a b imm : Int) (h : goodR 3 d a b imm = true) : (0 ≤ d ∧ d ≤ 31) ∧ (0 ≤ a ∧ a ≤ 31) ∧ (b = 0) ∧ (-32768 ≤ imm ∧ imm < 32768) := by
  simp [tmod4, goodR, of_3, ofOk, numF, condBad, immOk, fits_16, fits_14, fits_24] at h
  omega
theorem en_3 (d a b imm : Int) (h : goodR 3 d a b imm = true) : encI flT wtT 3 d a b imm = encR 3 d a b imm := by
  have hb := bnd_3 d a b imm h
  show encStep d a b imm (encStep d a b imm (encStep d a b imm (939524096) 100) 97) 105 = (939524096 + d * 2097152 + a * 65536 + b * 2048 + (imm + 65536).tmod 65536) % 4294967296
  rw [st_d d a b imm (939524096) (by omega) (by omega) (by omega) (by omega), st_a d a b imm (939524096 + d % 32 * 2097152) (by omega) (by omega) (by omega) (by omega), st_i d a b imm (939524096 + d % 32 * 2097152 + a % 32 * 65536) (by omega) (by omega) (by omega) (by omega)]
  rw [Int.tmod_eq_emod_of_nonneg (by omega)]
  omega
theorem bnd_4 (d a b imm : Int) (h : goodR 4 d a b imm = true) : (0 ≤ d ∧ d ≤ 31) ∧ (0 ≤ a ∧ a ≤ 31) ∧ (0 ≤ b ∧ b ≤ 31) ∧ (imm = 0) := by
  simp [tmod4, goodR, of_4, ofOk, numF, condBad, immOk, fits_16, fits_14, fits_24] at h
  omega
theorem en_4 (d a b imm : Int) (h : goodR 4 d a b imm = true) : encI flT wtT 4 d a b imm = encR 4 d a b imm := by
  have hb := bnd_4 d a b imm h
  show encStep d a b imm (encStep d a b imm (encStep d a b imm (2080375316) 100) 97) 98 = (2080375316 + d * 2097152 + a * 65536 + b * 2048 + 0) % 4294967296
  rw [st_d d a b imm (2080375316) (by omega) (by omega) (by omega) (by omega), st_a d a b imm (2080375316 + d % 32 * 2097152) (by omega) (by omega) (by omega) (by omega), st_b d a b imm (2080375316 + d % 32 * 2097152 + a % 32 * 65536) (by omega) (by omega) (by omega) (by omega)]
  omega
theorem bnd_5 (d a b imm : Int) (h : goodR 5 d a b imm = true) : (0 ≤ d ∧ d ≤ 31) ∧ (0 ≤ a ∧ a ≤ 31) ∧ (0 ≤ b ∧ b ≤ 31) ∧ (imm = 0) := by
  simp [tmod4, goodR, of_5, ofOk, numF, condBad, immOk, fits_16, fits_14, fits_24] at h
  omega
theorem en_5 (d a b imm : Int) (h : goodR 5 d a b imm = true) : encI flT wtT 5 d a b imm = encR 5 d a b imm := by
  have hb := bnd_5 d a b imm h
  show encStep d a b imm (encStep d a b imm (encStep d a b imm (2080374864) 100) 97) 98 = (2080374864 + d * 2097152 + a * 65536 + b * 2048 + 0) % 4294967296
  rw [st_d d a b imm (2080374864) (by omega) (by omega) (by omega) (by omega), st_a d a b imm (2080374864 + d % 32 * 2097152) (by omega) (by omega) (by omega) (by omega), st_b d a b imm (2080374864 + d % 32 * 2097152 + a % 32 * 65536) (by omega) (by omega) (by omega) (by omega)]
  omega
theorem bnd_6 (d a b imm : Int) (h : goodR 6 d a b imm = true) : (0 ≤ d ∧ d ≤ 31) ∧ (0 ≤ a ∧ a ≤ 31) ∧ (0 ≤ b ∧ b ≤ 31) ∧ (imm = 0) := by
  simp [tmod4, goodR, of_6, ofOk, numF, condBad, immOk, fits_16, fits_14, fits_24] at h
  omega
theorem en_6 (d a b imm : Int) (h : goodR 6 d a b imm = true) : encI flT wtT 6 d a b imm = encR 6 d a b imm := by
  have hb := bnd_6 d a b imm h
  show encStep d a b imm (encStep d a b imm (encStep d a b imm (2080375250) 100) 97) 98 = (2080375250 + d * 2097152 + a * 65536 + b * 2048 + 0) % 4294967296
  rw [st_d d a b imm (2080375250) (by omega) (by omega) (by omega) (by omega), st_a d a b imm (2080375250 + d % 32 * 2097152) (by omega) (by omega) (by omega) (by omega), st_b d a b imm (2080375250 + d % 32 * 2097152 + a % 32 * 65536) (by omega) (by omega) (by omega) (by omega)]
  omega
theorem bnd_7 (d a b imm : Int) (h : goodR 7 d a b imm = true) : (0 ≤ d ∧ d ≤ 31) ∧ (0 ≤ a ∧ a ≤ 31) ∧ (0 ≤ b ∧ b ≤ 31) ∧ (imm = 0) := by
  simp [tmod4, goodR, of_7, ofOk, numF, condBad, immOk, fits_16, fits_14, fits_24] at h
  omega
theorem en_7 (d a b imm : Int) (h : goodR 7 d a b imm = true) : encI flT wtT 7 d a b imm = encR 7 d a b imm := by
  have hb := bnd_7 d a b imm h
  show encStep d a b imm (encStep d a b imm (encStep d a b imm (2080375762) 100) 97) 98 = (2080375762 + d * 2097152 + a * 65536 + b * 2048 + 0) % 4294967296
  rw [st_d d a b imm (2080375762) (by omega) (by omega) (by omega) (by omega), st_a d a b imm (2080375762 + d % 32 * 2097152) (by omega) (by omega) (by omega) (by omega), st_b d a b imm (2080375762 + d % 32 * 2097152 + a % 32 * 65536) (by omega) (by omega) (by omega) (by omega)]
  omega
theorem bnd_8 (d a b imm : Int) (h : goodR 8 d a b imm = true) : (d = 0) ∧ (0 ≤ a ∧ a ≤ 31) ∧ (0 ≤ b ∧ b ≤ 31) ∧ (imm = 0) := by
  simp [tmod4, goodR, of_8, ofOk, numF, condBad, immOk, fits_16, fits_14, fits_24] at h
  omega
theorem en_8 (d a b imm : Int) (h : goodR 8 d a b imm = true) : encI flT wtT 8 d a b imm = encR 8 d a b imm := by
  have hb := bnd_8 d a b imm h
  show encStep d a b imm (encStep d a b imm (2082471936) 97) 98 = (2082471936 + d * 2097152 + a * 65536 + b * 2048 + 0) % 4294967296
  rw [st_a d a b imm (2082471936) (by omega) (by omega) (by omega) (by omega), st_b d a b imm (2082471936 + a % 32 * 65536) (by omega) (by omega) (by omega) (by omega)]
  omega
theorem bnd_9 (d a b imm : Int) (h : goodR 9 d a b imm = true) : (d = 0) ∧ (0 ≤ a ∧ a ≤ 31) ∧ (b = 0) ∧ (-32768 ≤ imm ∧ imm < 32768) := by
  simp [tmod4, goodR, of_9, ofOk, numF, condBad, immOk, fits_16, fits_14, fits_24] at h
  omega
theorem en_9 (d a b imm : Int) (h : goodR 9 d a b imm = true) : encI flT wtT 9 d a b imm = encR 9 d a b imm := by
  have hb := bnd_9 d a b imm h
  show encStep d a b imm (encStep d a b imm (740294656) 97) 105 = (740294656 + d * 2097152 + a * 65536 + b * 2048 + (imm + 65536).tmod 65536) % 4294967296
  rw [st_a d a b imm (740294656) (by omega) (by omega) (by omega) (by omega), st_i d a b imm (740294656 + a % 32 * 65536) (by omega) (by omega) (by omega) (by omega)]
  rw [Int.tmod_eq_emod_of_nonneg (by omega)]
  omega
theorem bnd_10 (d a b imm : Int) (h : goodR 10 d a b imm = true) : (0 ≤ d ∧ d ≤ 31) ∧ (0 ≤ a ∧ a ≤ 31) ∧ (b = 0) ∧ (-8192 ≤ imm ∧ imm < 8192) ∧ ((d = 4 ∨ d = 12) ∧ a ≤ 2) := by
  simp [tmod4, goodR, of_10, ofOk, numF, condBad, immOk, fits_16, fits_14, fits_24] at h
  omega
theorem en_10 (d a b imm : Int) (h : goodR 10 d a b imm = true) : encI flT wtT 10 d a b imm = encR 10 d a b imm := by
  have hb := bnd_10 d a b imm h
  show encStep d a b imm (encStep d a b imm (1073741824) 99) 111 = (1073741824 + d * 2097152 + a * 65536 + b * 2048 + (4 * imm + 65536).tmod 65536) % 4294967296
  rw [st_c d a b imm (1073741824) (by omega) (by omega) (by omega) (by omega) (by omega) (by omega) (by omega), st_o d a b imm (1073741824 + (d * 32 + a) * 65536) (by omega) (by omega) (by omega) (by omega)]
  rw [Int.tmod_eq_emod_of_nonneg (by omega)]
  omega
theorem bnd_11 (d a b imm : Int) (h : goodR 11 d a b imm = true) : (d = 0) ∧ (a = 0) ∧ (b = 0) ∧ (-8388608 ≤ imm ∧ imm < 8388608) := by
  simp [tmod4, goodR, of_11, ofOk, numF, condBad, immOk, fits_16, fits_14, fits_24] at h
  omega
theorem en_11 (d a b imm : Int) (h : goodR 11 d a b imm = true) : encI flT wtT 11 d a b imm = encR 11 d a b imm := by
  have hb := bnd_11 d a b imm h
  show encStep d a b imm (1207959552) 108 = (1207959552 + d * 2097152 + a * 65536 + b * 2048 + (4 * imm + 67108864).tmod 67108864) % 4294967296
  rw [st_l d a b imm (1207959552) (by omega) (by omega) (by omega) (by omega)]
  rw [Int.tmod_eq_emod_of_nonneg (by omega)]
  omega
theorem bnd_12 (d a b imm : Int) (h : goodR 12 d a b imm = true) : (d = 0) ∧ (a = 0) ∧ (b = 0) ∧ (-8388608 ≤ imm ∧ imm < 8388608) := by
  simp [tmod4, goodR, of_12, ofOk, numF, condBad, immOk, fits_16, fits_14, fits_24] at h
  omega
theorem en_12 (d a b imm : Int) (h : goodR 12 d a b imm = true) : encI flT wtT 12 d a b imm = encR 12 d a b imm := by
  have hb := bnd_12 d a b imm h
  show encStep d a b imm (1207959553) 108 = (1207959553 + d * 2097152 + a * 65536 + b * 2048 + (4 * imm + 67108864).tmod 67108864) % 4294967296
  rw [st_l d a b imm (1207959553) (by omega) (by omega) (by omega) (by omega)]
  rw [Int.tmod_eq_emod_of_nonneg (by omega)]
  omega
theorem bnd_13 (d a b imm : Int) (h : goodR 13 d a b imm = true) : (d = 0) ∧ (a = 0) ∧ (b = 0) ∧ (imm = 0) := by
  simp [tmod4, goodR, of_13, ofOk, numF, condBad, immOk, fits_16, fits_14, fits_24] at h
  omega
theorem en_13 (d a b imm : Int) (h : goodR 13 d a b imm = true) : encI flT wtT 13 d a b imm = encR 13 d a b imm := by
  have hb := bnd_13 d a b imm h
  show 1317011488 = (1317011488 + d * 2097152 + a * 65536 + b * 2048 + 0) % 4294967296
  omega
theorem bnd_14 (d a b imm : Int) (h : goodR 14 d a b imm = true) : (0 ≤ d ∧ d ≤ 31) ∧ (a = 0) ∧ (b = 0) ∧ (imm = 0) := by
  simp [tmod4, goodR, of_14, ofOk, numF, condBad, immOk, fits_16, fits_14, fits_24] at h
  omega
theorem en_14 (d a b imm : Int) (h : goodR 14 d a b imm = true) : encI flT wtT 14 d a b imm = encR 14 d a b imm := by
  have hb := bnd_14 d a b imm h
  show encStep d a b imm (2080899750) 100 = (2080899750 + d * 2097152 + a * 65536 + b * 2048 + 0) % 4294967296
  rw [st_d d a b imm (2080899750) (by omega) (by omega) (by omega) (by omega)]
  omega
theorem bnd_15 (d a b imm : Int) (h : goodR 15 d a b imm = true) : (0 ≤ d ∧ d ≤ 31) ∧ (a = 0) ∧ (b = 0) ∧ (imm = 0) := by
  simp [tmod4, goodR, of_15, ofOk, numF, condBad, immOk, fits_16, fits_14, fits_24] at h
  omega
theorem en_15 (d a b imm : Int) (h : goodR 15 d a b imm = true) : encI flT wtT 15 d a b imm = encR 15 d a b imm := by
  have hb := bnd_15 d a b imm h
  show encStep d a b imm (2080900006) 100 = (2080900006 + d * 2097152 + a * 65536 + b * 2048 + 0) % 4294967296
  rw [st_d d a b imm (2080900006) (by omega) (by omega) (by omega) (by omega)]
  omega
theorem bnd_16 (d a b imm : Int) (h : goodR 16 d a b imm = true) : (0 ≤ d ∧ d ≤ 31) ∧ (0 ≤ a ∧ a ≤ 31) ∧ (0 ≤ b ∧ b ≤ 31) ∧ (imm = 0) := by
  simp [tmod4, goodR, of_16, ofOk, numF, condBad, immOk, fits_16, fits_14, fits_24] at h
  omega
theorem en_16 (d a b imm : Int) (h : goodR 16 d a b imm = true) : encI flT wtT 16 d a b imm = encR 16 d a b imm := by
  have hb := bnd_16 d a b imm h
  show encStep d a b imm (encStep d a b imm (encStep d a b imm (2080374952) 100) 97) 98 = (2080374952 + d * 2097152 + a * 65536 + b * 2048 + 0) % 4294967296
  rw [st_d d a b imm (2080374952) (by omega) (by omega) (by omega) (by omega), st_a d a b imm (2080374952 + d % 32 * 2097152) (by omega) (by omega) (by omega) (by omega), st_b d a b imm (2080374952 + d % 32 * 2097152 + a % 32 * 65536) (by omega) (by omega) (by omega) (by omega)]
  omega
theorem bnd_17 (d a b imm : Int) (h : goodR 17 d a b imm = true) : (0 ≤ d ∧ d ≤ 31) ∧ (0 ≤ a ∧ a ≤ 31) ∧ (0 ≤ b ∧ b ≤ 31) ∧ (imm = 0) := by
  simp [tmod4, goodR, of_17, ofOk, numF, condBad, immOk, fits_16, fits_14, fits_24] at h
  omega
theorem en_17 (d a b imm : Int) (h : goodR 17 d a b imm = true) : encI flT wtT 17 d a b imm = encR 17 d a b imm := by
  have hb := bnd_17 d a b imm h
  show encStep d a b imm (encStep d a b imm (encStep d a b imm (2080375213) 100) 97) 98 = (2080375213 + d * 2097152 + a * 65536 + b * 2048 + 0) % 4294967296
  rw [st_d d a b imm (2080375213) (by omega) (by omega) (by omega) (by omega), st_a d a b imm (2080375213 + d % 32 * 2097152) (by omega) (by omega) (by omega) (by omega), st_b d a b imm (2080375213 + d % 32 * 2097152 + a % 32 * 65536) (by omega) (by omega) (by omega) (by omega)]
  omega
theorem bnd_18 (d a b imm : Int) (h : goodR 18 d a b imm = true) : (d = 0) ∧ (a = 0) ∧ (b = 0) ∧ (imm = 0) := by
  simp [tmod4, goodR, of_18, ofOk, numF, condBad, immOk, fits_16, fits_14, fits_24] at h
  omega
theorem en_18 (d a b imm : Int) (h : goodR 18 d a b imm = true) : encI flT wtT 18 d a b imm = encR 18 d a b imm := by
  have hb := bnd_18 d a b imm h
  show 2080375980 = (2080375980 + d * 2097152 + a * 65536 + b * 2048 + 0) % 4294967296
  omega
theorem bnd_19 (d a b imm : Int) (h : goodR 19 d a b imm = true) : (d = 0) ∧ (a = 0) ∧ (b = 0) ∧ (imm = 0) := by
  simp [tmod4, goodR, of_19, ofOk, numF, condBad, immOk, fits_16, fits_14, fits_24] at h
  omega
theorem en_19 (d a b imm : Int) (h : goodR 19 d a b imm = true) : encI flT wtT 19 d a b imm = encR 19 d a b imm := by
  have hb := bnd_19 d a b imm h
  show 2082473132 = (2082473132 + d * 2097152 + a * 65536 + b * 2048 + 0) % 4294967296
  omega
theorem bnd_20 (d a b imm : Int) (h : goodR 20 d a b imm = true) : (d = 0) ∧ (a = 0) ∧ (b = 0) ∧ (imm = 0) := by
  simp [tmod4, goodR, of_20, ofOk, numF, condBad, immOk, fits_16, fits_14, fits_24] at h
  omega
theorem en_20 (d a b imm : Int) (h : goodR 20 d a b imm = true) : encI flT wtT 20 d a b imm = encR 20 d a b imm := by
  have hb := bnd_20 d a b imm h
  show 1275068716 = (1275068716 + d * 2097152 + a * 65536 + b * 2048 + 0) % 4294967296
  omega
theorem bnd_21 (d a b imm : Int) (h : goodR 21 d a b imm = true) : (d = 0) ∧ (a = 0) ∧ (b = 0) ∧ (-32768 ≤ imm ∧ imm < 32768) ∧ (0 ≤ imm) := by
  simp [tmod4, goodR, of_21, ofOk, numF, condBad, immOk, fits_16, fits_14, fits_24] at h
  omega
theorem en_21 (d a b imm : Int) (h : goodR 21 d a b imm = true) : encI flT wtT 21 d a b imm = encR 21 d a b imm := by
  have hb := bnd_21 d a b imm h
  show encStep d a b imm (266338304) 105 = (266338304 + d * 2097152 + a * 65536 + b * 2048 + (imm + 65536).tmod 65536) % 4294967296
  rw [st_i d a b imm (266338304) (by omega) (by omega) (by omega) (by omega)]
  rw [Int.tmod_eq_emod_of_nonneg (by omega)]
  omega
theorem bnd_22 (d a b imm : Int) (h : goodR 22 d a b imm = true) : (0 ≤ d ∧ d ≤ 31) ∧ (a = 0) ∧ (b = 0) ∧ (imm = 0) := by
  simp [tmod4, goodR, of_22, ofOk, numF, condBad, immOk, fits_16, fits_14, fits_24] at h
  omega
theorem en_22 (d a b imm : Int) (h : goodR 22 d a b imm = true) : encI flT wtT 22 d a b imm = encR 22 d a b imm := by
  have hb := bnd_22 d a b imm h
  show encStep d a b imm (1140850690) 100 = (1140850690 + d * 2097152 + a * 65536 + b * 2048 + 0) % 4294967296
  rw [st_d d a b imm (1140850690) (by omega) (by omega) (by omega) (by omega)]
  omega
theorem goodR_range {op d a b imm : Int} (h : goodR op d a b imm = true) : 1 ≤ op ∧ op ≤ 22 := by
  by_cases hr : 1 ≤ op ∧ op ≤ 22
  · exact hr
  · rw [goodR, ofOk, decide_eq_false hr] at h
    cases h
theorem enc_eq (op d a b imm : Int) (h : goodR op d a b imm = true) : encI flT wtT op d a b imm = encR op d a b imm := by
  have hr := goodR_range h
  rcases of_cases hr.1 hr.2 with e | e | e | e | e | e | e | e | e | e | e | e | e | e | e | e | e | e | e | e | e | e <;> subst e
  · exact en_1 d a b imm h
  · exact en_2 d a b imm h
  · exact en_3 d a b imm h
  · exact en_4 d a b imm h
  · exact en_5 d a b imm h
  · exact en_6 d a b imm h
  · exact en_7 d a b imm h
  · exact en_8 d a b imm h
  · exact en_9 d a b imm h
  · exact en_10 d a b imm h
  · exact en_11 d a b imm h
  · exact en_12 d a b imm h
  · exact en_13 d a b imm h
  · exact en_14 d a b imm h
  · exact en_15 d a b imm h
  · exact en_16 d a b imm h
  · exact en_17 d a b imm h
  · exact en_18 d a b imm h
  · exact en_19 d a b imm h
  · exact en_20 d a b imm h
  · exact en_21 d a b imm h
  · exact en_22 d a b imm h
/-- what an instruction that can be has -/
theorem good_bounds (op d a b imm : Int) (h : goodR op d a b imm = true) : (0 ≤ d ∧ d ≤ 31) ∧ (0 ≤ a ∧ a ≤ 31) ∧ (0 ≤ b ∧ b ≤ 31) ∧ (-33554432 ≤ imm ∧ imm ≤ 33554432) := by
  have hr := goodR_range h
  rcases of_cases hr.1 hr.2 with e | e | e | e | e | e | e | e | e | e | e | e | e | e | e | e | e | e | e | e | e | e <;> subst e
  · have := bnd_1 d a b imm h; omega
  · have := bnd_2 d a b imm h; omega
  · have := bnd_3 d a b imm h; omega
  · have := bnd_4 d a b imm h; omega
  · have := bnd_5 d a b imm h; omega
  · have := bnd_6 d a b imm h; omega
  · have := bnd_7 d a b imm h; omega
  · have := bnd_8 d a b imm h; omega
  · have := bnd_9 d a b imm h; omega
  · have := bnd_10 d a b imm h; omega
  · have := bnd_11 d a b imm h; omega
  · have := bnd_12 d a b imm h; omega
  · have := bnd_13 d a b imm h; omega
  · have := bnd_14 d a b imm h; omega
  · have := bnd_15 d a b imm h; omega
  · have := bnd_16 d a b imm h; omega
  · have := bnd_17 d a b imm h; omega
  · have := bnd_18 d a b imm h; omega
  · have := bnd_19 d a b imm h; omega
  · have := bnd_20 d a b imm h; omega
  · have := bnd_21 d a b imm h; omega
  · have := bnd_22 d a b imm h; omega
end Go.Proofs.YtpbffmkdchiajaaDoor

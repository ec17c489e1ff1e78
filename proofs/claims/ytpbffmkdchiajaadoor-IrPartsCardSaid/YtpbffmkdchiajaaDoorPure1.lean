/-
  The plain law of package isa, first part: with the program's own table Good and Encode are the reference's.
-/
import Derived.Test.YtpbffmkdchiajaaDoorRef4
import Derived.Test.YtpbffmkdchiajaaDoorIsa5
namespace Go.Proofs.YtpbffmkdchiajaaDoor
open Go.RowKit
theorem tmod4 (x : Int) : x.tmod 4 = 0 ↔ x % 4 = 0 := by
  rw [← Int.dvd_iff_tmod_eq_zero, ← Int.dvd_iff_emod_eq_zero]
theorem fits_16 (x : Int) : fitsF x 16 = true ↔ -32768 ≤ x ∧ x < 32768 := by unfold fitsF; rw [decide_eq_true_iff]; exact Iff.rfl
theorem fits_14 (x : Int) : fitsF x 14 = true ↔ -8192 ≤ x ∧ x < 8192 := by unfold fitsF; rw [decide_eq_true_iff]; exact Iff.rfl
theorem fits_24 (x : Int) : fitsF x 24 = true ↔ -8388608 ≤ x ∧ x < 8388608 := by unfold fitsF; rw [decide_eq_true_iff]; exact Iff.rfl
def shpTab : List (ByteArray × ByteArray × Int) := [
  (⟨#[108, 100]⟩, ⟨#[100, 97, 109]⟩, 3892314112),
  (⟨#[115, 116, 100]⟩, ⟨#[100, 97, 109]⟩, 4160749568),
  (⟨#[97, 100, 100, 105]⟩, ⟨#[100, 97, 105]⟩, 939524096),
  (⟨#[97, 100, 100]⟩, ⟨#[100, 97, 98]⟩, 2080375316),
  (⟨#[115, 117, 98, 102]⟩, ⟨#[100, 97, 98]⟩, 2080374864),
  (⟨#[109, 117, 108, 108, 100]⟩, ⟨#[100, 97, 98]⟩, 2080375250),
  (⟨#[100, 105, 118, 100]⟩, ⟨#[100, 97, 98]⟩, 2080375762),
  (⟨#[99, 109, 112, 100]⟩, ⟨#[97, 98]⟩, 2082471936),
  (⟨#[99, 109, 112, 100, 105]⟩, ⟨#[97, 105]⟩, 740294656),
  (⟨#[98, 99]⟩, ⟨#[99, 111]⟩, 1073741824),
  (⟨#[98]⟩, ⟨#[108]⟩, 1207959552),
  (⟨#[98, 108]⟩, ⟨#[108]⟩, 1207959553),
  (⟨#[98, 108, 114]⟩, ⟨#[]⟩, 1317011488),
  (⟨#[109, 102, 108, 114]⟩, ⟨#[100]⟩, 2080899750),
  (⟨#[109, 116, 108, 114]⟩, ⟨#[100]⟩, 2080900006),
  (⟨#[108, 100, 97, 114, 120]⟩, ⟨#[100, 97, 98]⟩, 2080374952),
  (⟨#[115, 116, 100, 99, 120, 46]⟩, ⟨#[100, 97, 98]⟩, 2080375213),
  (⟨#[115, 121, 110, 99]⟩, ⟨#[]⟩, 2080375980),
  (⟨#[108, 119, 115, 121, 110, 99]⟩, ⟨#[]⟩, 2082473132),
  (⟨#[105, 115, 121, 110, 99]⟩, ⟨#[]⟩, 1275068716),
  (⟨#[116, 114, 97, 112]⟩, ⟨#[105]⟩, 266338304),
  (⟨#[111, 117, 116]⟩, ⟨#[100]⟩, 1140850690)]
def nmT (k : Nat) : ByteArray := (shpTab.getD (k - 1) (⟨#[]⟩, ⟨#[]⟩, 0)).1
def flT (k : Nat) : ByteArray := (shpTab.getD (k - 1) (⟨#[]⟩, ⟨#[]⟩, 0)).2.1
def wtT (k : Nat) : Int := (shpTab.getD (k - 1) (⟨#[]⟩, ⟨#[]⟩, 0)).2.2
theorem nat_cases {k : Nat} (h1 : 1 ≤ k) (h2 : k ≤ 22) : k = 1 ∨ k = 2 ∨ k = 3 ∨ k = 4 ∨ k = 5 ∨ k = 6 ∨ k = 7 ∨ k = 8 ∨ k = 9 ∨ k = 10 ∨ k = 11 ∨ k = 12 ∨ k = 13 ∨ k = 14 ∨ k = 15 ∨ k = 16 ∨ k = 17 ∨ k = 18 ∨ k = 19 ∨ k = 20 ∨ k = 21 ∨ k = 22 := by omega
theorem flOk : FlOk flT where
  size := by
    intro k h1 h2
    rcases nat_cases h1 h2 with h | h | h | h | h | h | h | h | h | h | h | h | h | h | h | h | h | h | h | h | h | h <;> subst h <;> decide
  byts := by
    intro k h1 h2
    have h : (flT k).data.toList.all (fun c => decide (c.toNat ∈ [100, 97, 98, 105, 109, 111, 108, 99])) = true := by
      rcases nat_cases h1 h2 with h | h | h | h | h | h | h | h | h | h | h | h | h | h | h | h | h | h | h | h | h | h <;> subst h <;> decide
    intro j hj
    have hj' : j < (flT k).data.toList.length := by simpa using hj
    have := List.all_eq_true.1 h ((flT k).data.toList.getD j 0) (by rw [List.getD_eq_getElem?_getD, List.getElem?_eq_getElem hj']; exact List.getElem_mem hj')
    simpa using this
theorem fl_1 : (flT 1).data.toList = [100, 97, 109] := rfl
theorem of_1 : ofF 1 = ⟨⟨#[108, 100]⟩, true, true, false, 4, 3892314112⟩ := rfl
theorem g_1 (d a b imm : Int) : goodI flT 1 d a b imm = goodR 1 d a b imm := by
  have e : (flT (1 : Int).toNat).data.toList = [100, 97, 109] := rfl
  rw [Bool.eq_iff_iff, goodI, e]
  simp [tmod4, goodB, usedB, uD, uA, uB, uI, pOk, goodR, of_1, ofOk, numF, condBad, immOk, regF, condF, fits_16, fits_14, fits_24]
  try simp only [decide_eq_true_eq]
  try omega
theorem fl_2 : (flT 2).data.toList = [100, 97, 109] := rfl
theorem of_2 : ofF 2 = ⟨⟨#[115, 116, 100]⟩, true, true, false, 4, 4160749568⟩ := rfl
theorem g_2 (d a b imm : Int) : goodI flT 2 d a b imm = goodR 2 d a b imm := by
  have e : (flT (2 : Int).toNat).data.toList = [100, 97, 109] := rfl
  rw [Bool.eq_iff_iff, goodI, e]
  simp [tmod4, goodB, usedB, uD, uA, uB, uI, pOk, goodR, of_2, ofOk, numF, condBad, immOk, regF, condF, fits_16, fits_14, fits_24]
  try simp only [decide_eq_true_eq]
  try omega
theorem fl_3 : (flT 3).data.toList = [100, 97, 105] := rfl
theorem of_3 : ofF 3 = ⟨⟨#[97, 100, 100, 105]⟩, true, true, false, 16, 939524096⟩ := rfl
theorem g_3 (d a b imm : Int) : goodI flT 3 d a b imm = goodR 3 d a b imm := by
  have e : (flT (3 : Int).toNat).data.toList = [100, 97, 105] := rfl
  rw [Bool.eq_iff_iff, goodI, e]
  simp [tmod4, goodB, usedB, uD, uA, uB, uI, pOk, goodR, of_3, ofOk, numF, condBad, immOk, regF, condF, fits_16, fits_14, fits_24]
  try simp only [decide_eq_true_eq]
  try omega
theorem fl_4 : (flT 4).data.toList = [100, 97, 98] := rfl
theorem of_4 : ofF 4 = ⟨⟨#[97, 100, 100]⟩, true, true, true, 0, 2080375316⟩ := rfl
theorem g_4 (d a b imm : Int) : goodI flT 4 d a b imm = goodR 4 d a b imm := by
  have e : (flT (4 : Int).toNat).data.toList = [100, 97, 98] := rfl
  rw [Bool.eq_iff_iff, goodI, e]
  simp [tmod4, goodB, usedB, uD, uA, uB, uI, pOk, goodR, of_4, ofOk, numF, condBad, immOk, regF, condF, fits_16, fits_14, fits_24]
  try simp only [decide_eq_true_eq]
  try omega
theorem fl_5 : (flT 5).data.toList = [100, 97, 98] := rfl
theorem of_5 : ofF 5 = ⟨⟨#[115, 117, 98, 102]⟩, true, true, true, 0, 2080374864⟩ := rfl
theorem g_5 (d a b imm : Int) : goodI flT 5 d a b imm = goodR 5 d a b imm := by
  have e : (flT (5 : Int).toNat).data.toList = [100, 97, 98] := rfl
  rw [Bool.eq_iff_iff, goodI, e]
  simp [tmod4, goodB, usedB, uD, uA, uB, uI, pOk, goodR, of_5, ofOk, numF, condBad, immOk, regF, condF, fits_16, fits_14, fits_24]
  try simp only [decide_eq_true_eq]
  try omega
theorem fl_6 : (flT 6).data.toList = [100, 97, 98] := rfl
theorem of_6 : ofF 6 = ⟨⟨#[109, 117, 108, 108, 100]⟩, true, true, true, 0, 2080375250⟩ := rfl
theorem g_6 (d a b imm : Int) : goodI flT 6 d a b imm = goodR 6 d a b imm := by
  have e : (flT (6 : Int).toNat).data.toList = [100, 97, 98] := rfl
  rw [Bool.eq_iff_iff, goodI, e]
  simp [tmod4, goodB, usedB, uD, uA, uB, uI, pOk, goodR, of_6, ofOk, numF, condBad, immOk, regF, condF, fits_16, fits_14, fits_24]
  try simp only [decide_eq_true_eq]
  try omega
theorem fl_7 : (flT 7).data.toList = [100, 97, 98] := rfl
theorem of_7 : ofF 7 = ⟨⟨#[100, 105, 118, 100]⟩, true, true, true, 0, 2080375762⟩ := rfl
theorem g_7 (d a b imm : Int) : goodI flT 7 d a b imm = goodR 7 d a b imm := by
  have e : (flT (7 : Int).toNat).data.toList = [100, 97, 98] := rfl
  rw [Bool.eq_iff_iff, goodI, e]
  simp [tmod4, goodB, usedB, uD, uA, uB, uI, pOk, goodR, of_7, ofOk, numF, condBad, immOk, regF, condF, fits_16, fits_14, fits_24]
  try simp only [decide_eq_true_eq]
  try omega
theorem fl_8 : (flT 8).data.toList = [97, 98] := rfl
theorem of_8 : ofF 8 = ⟨⟨#[99, 109, 112, 100]⟩, false, true, true, 0, 2082471936⟩ := rfl
theorem g_8 (d a b imm : Int) : goodI flT 8 d a b imm = goodR 8 d a b imm := by
  have e : (flT (8 : Int).toNat).data.toList = [97, 98] := rfl
  rw [Bool.eq_iff_iff, goodI, e]
  simp [tmod4, goodB, usedB, uD, uA, uB, uI, pOk, goodR, of_8, ofOk, numF, condBad, immOk, regF, condF, fits_16, fits_14, fits_24]
  try simp only [decide_eq_true_eq]
  try omega
theorem fl_9 : (flT 9).data.toList = [97, 105] := rfl
theorem of_9 : ofF 9 = ⟨⟨#[99, 109, 112, 100, 105]⟩, false, true, false, 16, 740294656⟩ := rfl
theorem g_9 (d a b imm : Int) : goodI flT 9 d a b imm = goodR 9 d a b imm := by
  have e : (flT (9 : Int).toNat).data.toList = [97, 105] := rfl
  rw [Bool.eq_iff_iff, goodI, e]
  simp [tmod4, goodB, usedB, uD, uA, uB, uI, pOk, goodR, of_9, ofOk, numF, condBad, immOk, regF, condF, fits_16, fits_14, fits_24]
  try simp only [decide_eq_true_eq]
  try omega
theorem fl_10 : (flT 10).data.toList = [99, 111] := rfl
theorem of_10 : ofF 10 = ⟨⟨#[]⟩, true, true, false, 14, 1073741824⟩ := rfl
theorem g_10 (d a b imm : Int) : goodI flT 10 d a b imm = goodR 10 d a b imm := by
  have e : (flT (10 : Int).toNat).data.toList = [99, 111] := rfl
  rw [Bool.eq_iff_iff, goodI, e]
  simp [tmod4, goodB, usedB, uD, uA, uB, uI, pOk, goodR, of_10, ofOk, numF, condBad, immOk, regF, condF, fits_16, fits_14, fits_24]
  try simp only [decide_eq_true_eq]
  try omega
theorem fl_11 : (flT 11).data.toList = [108] := rfl
theorem of_11 : ofF 11 = ⟨⟨#[98]⟩, false, false, false, 24, 1207959552⟩ := rfl
theorem g_11 (d a b imm : Int) : goodI flT 11 d a b imm = goodR 11 d a b imm := by
  have e : (flT (11 : Int).toNat).data.toList = [108] := rfl
  rw [Bool.eq_iff_iff, goodI, e]
  simp [tmod4, goodB, usedB, uD, uA, uB, uI, pOk, goodR, of_11, ofOk, numF, condBad, immOk, regF, condF, fits_16, fits_14, fits_24]
  try simp only [decide_eq_true_eq]
  try omega
theorem fl_12 : (flT 12).data.toList = [108] := rfl
theorem of_12 : ofF 12 = ⟨⟨#[98, 108]⟩, false, false, false, 24, 1207959553⟩ := rfl
theorem g_12 (d a b imm : Int) : goodI flT 12 d a b imm = goodR 12 d a b imm := by
  have e : (flT (12 : Int).toNat).data.toList = [108] := rfl
  rw [Bool.eq_iff_iff, goodI, e]
  simp [tmod4, goodB, usedB, uD, uA, uB, uI, pOk, goodR, of_12, ofOk, numF, condBad, immOk, regF, condF, fits_16, fits_14, fits_24]
  try simp only [decide_eq_true_eq]
  try omega
theorem fl_13 : (flT 13).data.toList = [] := rfl
theorem of_13 : ofF 13 = ⟨⟨#[98, 108, 114]⟩, false, false, false, 0, 1317011488⟩ := rfl
theorem g_13 (d a b imm : Int) : goodI flT 13 d a b imm = goodR 13 d a b imm := by
  have e : (flT (13 : Int).toNat).data.toList = [] := rfl
  rw [Bool.eq_iff_iff, goodI, e]
  simp [tmod4, goodB, usedB, uD, uA, uB, uI, pOk, goodR, of_13, ofOk, numF, condBad, immOk, regF, condF, fits_16, fits_14, fits_24]
  try simp only [decide_eq_true_eq]
  try omega
theorem fl_14 : (flT 14).data.toList = [100] := rfl
theorem of_14 : ofF 14 = ⟨⟨#[109, 102, 108, 114]⟩, true, false, false, 0, 2080899750⟩ := rfl
theorem g_14 (d a b imm : Int) : goodI flT 14 d a b imm = goodR 14 d a b imm := by
  have e : (flT (14 : Int).toNat).data.toList = [100] := rfl
  rw [Bool.eq_iff_iff, goodI, e]
  simp [tmod4, goodB, usedB, uD, uA, uB, uI, pOk, goodR, of_14, ofOk, numF, condBad, immOk, regF, condF, fits_16, fits_14, fits_24]
  try simp only [decide_eq_true_eq]
  try omega
theorem fl_15 : (flT 15).data.toList = [100] := rfl
theorem of_15 : ofF 15 = ⟨⟨#[109, 116, 108, 114]⟩, true, false, false, 0, 2080900006⟩ := rfl
theorem g_15 (d a b imm : Int) : goodI flT 15 d a b imm = goodR 15 d a b imm := by
  have e : (flT (15 : Int).toNat).data.toList = [100] := rfl
  rw [Bool.eq_iff_iff, goodI, e]
  simp [tmod4, goodB, usedB, uD, uA, uB, uI, pOk, goodR, of_15, ofOk, numF, condBad, immOk, regF, condF, fits_16, fits_14, fits_24]
  try simp only [decide_eq_true_eq]
  try omega
theorem fl_16 : (flT 16).data.toList = [100, 97, 98] := rfl
theorem of_16 : ofF 16 = ⟨⟨#[108, 100, 97, 114, 120]⟩, true, true, true, 0, 2080374952⟩ := rfl
theorem g_16 (d a b imm : Int) : goodI flT 16 d a b imm = goodR 16 d a b imm := by
  have e : (flT (16 : Int).toNat).data.toList = [100, 97, 98] := rfl
  rw [Bool.eq_iff_iff, goodI, e]
  simp [tmod4, goodB, usedB, uD, uA, uB, uI, pOk, goodR, of_16, ofOk, numF, condBad, immOk, regF, condF, fits_16, fits_14, fits_24]
  try simp only [decide_eq_true_eq]
  try omega
theorem fl_17 : (flT 17).data.toList = [100, 97, 98] := rfl
theorem of_17 : ofF 17 = ⟨⟨#[115, 116, 100, 99, 120, 46]⟩, true, true, true, 0, 2080375213⟩ := rfl
theorem g_17 (d a b imm : Int) : goodI flT 17 d a b imm = goodR 17 d a b imm := by
  have e : (flT (17 : Int).toNat).data.toList = [100, 97, 98] := rfl
  rw [Bool.eq_iff_iff, goodI, e]
  simp [tmod4, goodB, usedB, uD, uA, uB, uI, pOk, goodR, of_17, ofOk, numF, condBad, immOk, regF, condF, fits_16, fits_14, fits_24]
  try simp only [decide_eq_true_eq]
  try omega
theorem fl_18 : (flT 18).data.toList = [] := rfl
theorem of_18 : ofF 18 = ⟨⟨#[115, 121, 110, 99]⟩, false, false, false, 0, 2080375980⟩ := rfl
theorem g_18 (d a b imm : Int) : goodI flT 18 d a b imm = goodR 18 d a b imm := by
  have e : (flT (18 : Int).toNat).data.toList = [] := rfl
  rw [Bool.eq_iff_iff, goodI, e]
  simp [tmod4, goodB, usedB, uD, uA, uB, uI, pOk, goodR, of_18, ofOk, numF, condBad, immOk, regF, condF, fits_16, fits_14, fits_24]
  try simp only [decide_eq_true_eq]
  try omega
theorem fl_19 : (flT 19).data.toList = [] := rfl
theorem of_19 : ofF 19 = ⟨⟨#[108, 119, 115, 121, 110, 99]⟩, false, false, false, 0, 2082473132⟩ := rfl
theorem g_19 (d a b imm : Int) : goodI flT 19 d a b imm = goodR 19 d a b imm := by
  have e : (flT (19 : Int).toNat).data.toList = [] := rfl
  rw [Bool.eq_iff_iff, goodI, e]
  simp [tmod4, goodB, usedB, uD, uA, uB, uI, pOk, goodR, of_19, ofOk, numF, condBad, immOk, regF, condF, fits_16, fits_14, fits_24]
  try simp only [decide_eq_true_eq]
  try omega
theorem fl_20 : (flT 20).data.toList = [] := rfl
theorem of_20 : ofF 20 = ⟨⟨#[105, 115, 121, 110, 99]⟩, false, false, false, 0, 1275068716⟩ := rfl
theorem g_20 (d a b imm : Int) : goodI flT 20 d a b imm = goodR 20 d a b imm := by
  have e : (flT (20 : Int).toNat).data.toList = [] := rfl
  rw [Bool.eq_iff_iff, goodI, e]
  simp [tmod4, goodB, usedB, uD, uA, uB, uI, pOk, goodR, of_20, ofOk, numF, condBad, immOk, regF, condF, fits_16, fits_14, fits_24]
  try simp only [decide_eq_true_eq]
  try omega
theorem fl_21 : (flT 21).data.toList = [105] := rfl
theorem of_21 : ofF 21 = ⟨⟨#[116, 114, 97, 112]⟩, false, false, false, 16, 266338304⟩ := rfl
theorem g_21 (d a b imm : Int) : goodI flT 21 d a b imm = goodR 21 d a b imm := by
  have e : (flT (21 : Int).toNat).data.toList = [105] := rfl
  rw [Bool.eq_iff_iff, goodI, e]
  simp [tmod4, goodB, usedB, uD, uA, uB, uI, pOk, goodR, of_21, ofOk, numF, condBad, immOk, regF, condF, fits_16, fits_14, fits_24]
  try simp only [decide_eq_true_eq]
  try omega
theorem fl_22 : (flT 22).data.toList = [100] := rfl
theorem of_22 : ofF 22 = ⟨⟨#[111, 117, 116]⟩, true, false, false, 0, 1140850690⟩ := rfl
theorem g_22 (d a b imm : Int) : goodI flT 22 d a b imm = goodR 22 d a b imm := by
  have e : (flT (22 : Int).toNat).data.toList = [100] := rfl
  rw [Bool.eq_iff_iff, goodI, e]
  simp [tmod4, goodB, usedB, uD, uA, uB, uI, pOk, goodR, of_22, ofOk, numF, condBad, immOk, regF, condF, fits_16, fits_14, fits_24]
  try simp only [decide_eq_true_eq]
  try omega
theorem goodI_eq (op d a b imm : Int) : goodI flT op d a b imm = goodR op d a b imm := by
  by_cases h : 1 ≤ op ∧ op ≤ 22
  · rcases of_cases h.1 h.2 with h | h | h | h | h | h | h | h | h | h | h | h | h | h | h | h | h | h | h | h | h | h <;> subst h
    · exact g_1 d a b imm
    · exact g_2 d a b imm
    · exact g_3 d a b imm
    · exact g_4 d a b imm
    · exact g_5 d a b imm
    · exact g_6 d a b imm
    · exact g_7 d a b imm
    · exact g_8 d a b imm
    · exact g_9 d a b imm
    · exact g_10 d a b imm
    · exact g_11 d a b imm
    · exact g_12 d a b imm
    · exact g_13 d a b imm
    · exact g_14 d a b imm
    · exact g_15 d a b imm
    · exact g_16 d a b imm
    · exact g_17 d a b imm
    · exact g_18 d a b imm
    · exact g_19 d a b imm
    · exact g_20 d a b imm
    · exact g_21 d a b imm
    · exact g_22 d a b imm
  · rw [goodI, decide_eq_false h, goodR, ofOk, decide_eq_false h]
    rfl
end Go.Proofs.YtpbffmkdchiajaaDoor

/-
  The plain law of package isa, fourth part: with the program's own table Text is the reference's.
-/
import Derived.Test.YtpbffmkdchiajaaDoorPure3
namespace Go.Proofs.YtpbffmkdchiajaaDoor
open Go.RowKit
theorem digit_last (u : Nat) : ∃ m c, Lib.decDigits u = m ++ [c] ∧ Lib.isSp c = false ∧ 48 ≤ c.toNat ∧ c.toNat ≤ 57 := by
  have key : ∀ n : Nat, n < 10 → Lib.isSp (UInt8.ofNat (48 + n)) = false ∧ 48 ≤ (UInt8.ofNat (48 + n)).toNat ∧ (UInt8.ofNat (48 + n)).toNat ≤ 57 := by decide
  rw [Lib.decDigits]
  split
  · rename_i h
    exact ⟨[], _, rfl, key u h⟩
  · exact ⟨_, _, rfl, key (u % 10) (by omega)⟩
theorem itoa_last (n : Int) : ∃ m c, Lib.itoa n = m ++ [c] ∧ Lib.isSp c = false := by
  unfold Lib.itoa
  split
  · obtain ⟨m, c, h, hc, _⟩ := digit_last n.natAbs
    exact ⟨45 :: m, c, by rw [h]; rfl, hc⟩
  · obtain ⟨m, c, h, hc, _⟩ := digit_last n.toNat
    exact ⟨m, c, h, hc⟩
theorem trim_keep (x : UInt8) (l : List UInt8) (n : Int) (hx : Lib.isSp x = false) : Lib.trimSpace (x :: (l ++ Lib.itoa n)) = x :: (l ++ Lib.itoa n) := by
  obtain ⟨m, c, h, hc⟩ := itoa_last n
  rw [h]
  have e : (x :: (l ++ (m ++ [c]))).dropWhile Lib.isSp = x :: (l ++ (m ++ [c])) := by rw [List.dropWhile_cons_of_neg (by rw [hx]; simp)]
  have e2 : (x :: (l ++ (m ++ [c]))).reverse = c :: (x :: (l ++ m)).reverse := by simp
  rw [Lib.trimSpace, e, e2, List.dropWhile_cons_of_neg (by rw [hc]; simp), ← e2, List.reverse_reverse]
theorem textF_cons (nm x : ByteArray) (c : UInt8) (r : List UInt8) (h : x.data.toList = c :: r) : (textF nm x).data.toList = nm.data.toList ++ r := by
  have hz : x.size = r.length + 1 := by rw [← ByteArray.size_data, ← Array.length_toList, h]; rfl
  unfold textF
  rw [if_neg (by omega)]
  simp only [ByteArray.data_append, Array.toList_append, ByteArray.data_extract, Array.toList_extract, h]
  rw [hz]
  simp [List.extract]
  rw [h]
  simp
theorem textF_nil (nm x : ByteArray) (h : x.data.toList = []) : textF nm x = nm := by
  have hz : x.size = 0 := by rw [← ByteArray.size_data, ← Array.length_toList, h]; rfl
  unfold textF
  rw [if_pos hz]
def trimB (k : Nat) (d a b imm : Int) : List UInt8 := Lib.trimSpace ((nmT k ++ ⟨#[32]⟩) ++ ⟨(Lib.join ((partsL d a b imm (flT k).data.toList).map (·.data.toList)) [44, 32]).toArray⟩).data.toList
theorem tx_1 (d a b imm : Int) : trimB 1 d a b imm = (textF (ofF 1).nm (accI (ofF 1) d a b imm)).data.toList := by
  have e : ((nmT 1 ++ ⟨#[32]⟩) ++ ⟨(Lib.join ((partsL d a b imm (flT 1).data.toList).map (·.data.toList)) [44, 32]).toArray⟩ : ByteArray).data.toList = 108 :: ([100, 32] ++ (114 :: Lib.itoa d ++ 44 :: 32 :: (114 :: Lib.itoa a ++ 44 :: 32 :: [])) ++ Lib.itoa imm) := by
    simp [fl_1, nmT, shpTab, partsL, partB, rB, itoaB, Lib.join_cons, Lib.joinTail]
  have e2 : (accI (ofF 1) d a b imm).data.toList = 44 :: (32 :: (114 :: Lib.itoa d ++ 44 :: 32 :: (114 :: Lib.itoa a ++ 44 :: 32 :: [])) ++ Lib.itoa imm) := by
    simp [accI, accB, segB, of_1, itoaB]
  rw [textF_cons _ _ _ _ e2, trimB, e, trim_keep _ _ _ (by decide)]
  simp [of_1]
theorem tx_2 (d a b imm : Int) : trimB 2 d a b imm = (textF (ofF 2).nm (accI (ofF 2) d a b imm)).data.toList := by
  have e : ((nmT 2 ++ ⟨#[32]⟩) ++ ⟨(Lib.join ((partsL d a b imm (flT 2).data.toList).map (·.data.toList)) [44, 32]).toArray⟩ : ByteArray).data.toList = 115 :: ([116, 100, 32] ++ (114 :: Lib.itoa d ++ 44 :: 32 :: (114 :: Lib.itoa a ++ 44 :: 32 :: [])) ++ Lib.itoa imm) := by
    simp [fl_2, nmT, shpTab, partsL, partB, rB, itoaB, Lib.join_cons, Lib.joinTail]
  have e2 : (accI (ofF 2) d a b imm).data.toList = 44 :: (32 :: (114 :: Lib.itoa d ++ 44 :: 32 :: (114 :: Lib.itoa a ++ 44 :: 32 :: [])) ++ Lib.itoa imm) := by
    simp [accI, accB, segB, of_2, itoaB]
  rw [textF_cons _ _ _ _ e2, trimB, e, trim_keep _ _ _ (by decide)]
  simp [of_2]
theorem tx_3 (d a b imm : Int) : trimB 3 d a b imm = (textF (ofF 3).nm (accI (ofF 3) d a b imm)).data.toList := by
  have e : ((nmT 3 ++ ⟨#[32]⟩) ++ ⟨(Lib.join ((partsL d a b imm (flT 3).data.toList).map (·.data.toList)) [44, 32]).toArray⟩ : ByteArray).data.toList = 97 :: ([100, 100, 105, 32] ++ (114 :: Lib.itoa d ++ 44 :: 32 :: (114 :: Lib.itoa a ++ 44 :: 32 :: [])) ++ Lib.itoa imm) := by
    simp [fl_3, nmT, shpTab, partsL, partB, rB, itoaB, Lib.join_cons, Lib.joinTail]
  have e2 : (accI (ofF 3) d a b imm).data.toList = 44 :: (32 :: (114 :: Lib.itoa d ++ 44 :: 32 :: (114 :: Lib.itoa a ++ 44 :: 32 :: [])) ++ Lib.itoa imm) := by
    simp [accI, accB, segB, of_3, itoaB]
  rw [textF_cons _ _ _ _ e2, trimB, e, trim_keep _ _ _ (by decide)]
  simp [of_3]
theorem tx_4 (d a b imm : Int) : trimB 4 d a b imm = (textF (ofF 4).nm (accI (ofF 4) d a b imm)).data.toList := by
  have e : ((nmT 4 ++ ⟨#[32]⟩) ++ ⟨(Lib.join ((partsL d a b imm (flT 4).data.toList).map (·.data.toList)) [44, 32]).toArray⟩ : ByteArray).data.toList = 97 :: ([100, 100, 32] ++ (114 :: Lib.itoa d ++ 44 :: 32 :: (114 :: Lib.itoa a ++ 44 :: 32 :: [114])) ++ Lib.itoa b) := by
    simp [fl_4, nmT, shpTab, partsL, partB, rB, itoaB, Lib.join_cons, Lib.joinTail]
  have e2 : (accI (ofF 4) d a b imm).data.toList = 44 :: (32 :: (114 :: Lib.itoa d ++ 44 :: 32 :: (114 :: Lib.itoa a ++ 44 :: 32 :: [114])) ++ Lib.itoa b) := by
    simp [accI, accB, segB, of_4, itoaB]
  rw [textF_cons _ _ _ _ e2, trimB, e, trim_keep _ _ _ (by decide)]
  simp [of_4]
theorem tx_5 (d a b imm : Int) : trimB 5 d a b imm = (textF (ofF 5).nm (accI (ofF 5) d a b imm)).data.toList := by
  have e : ((nmT 5 ++ ⟨#[32]⟩) ++ ⟨(Lib.join ((partsL d a b imm (flT 5).data.toList).map (·.data.toList)) [44, 32]).toArray⟩ : ByteArray).data.toList = 115 :: ([117, 98, 102, 32] ++ (114 :: Lib.itoa d ++ 44 :: 32 :: (114 :: Lib.itoa a ++ 44 :: 32 :: [114])) ++ Lib.itoa b) := by
    simp [fl_5, nmT, shpTab, partsL, partB, rB, itoaB, Lib.join_cons, Lib.joinTail]
  have e2 : (accI (ofF 5) d a b imm).data.toList = 44 :: (32 :: (114 :: Lib.itoa d ++ 44 :: 32 :: (114 :: Lib.itoa a ++ 44 :: 32 :: [114])) ++ Lib.itoa b) := by
    simp [accI, accB, segB, of_5, itoaB]
  rw [textF_cons _ _ _ _ e2, trimB, e, trim_keep _ _ _ (by decide)]
  simp [of_5]
theorem tx_6 (d a b imm : Int) : trimB 6 d a b imm = (textF (ofF 6).nm (accI (ofF 6) d a b imm)).data.toList := by
  have e : ((nmT 6 ++ ⟨#[32]⟩) ++ ⟨(Lib.join ((partsL d a b imm (flT 6).data.toList).map (·.data.toList)) [44, 32]).toArray⟩ : ByteArray).data.toList = 109 :: ([117, 108, 108, 100, 32] ++ (114 :: Lib.itoa d ++ 44 :: 32 :: (114 :: Lib.itoa a ++ 44 :: 32 :: [114])) ++ Lib.itoa b) := by
    simp [fl_6, nmT, shpTab, partsL, partB, rB, itoaB, Lib.join_cons, Lib.joinTail]
  have e2 : (accI (ofF 6) d a b imm).data.toList = 44 :: (32 :: (114 :: Lib.itoa d ++ 44 :: 32 :: (114 :: Lib.itoa a ++ 44 :: 32 :: [114])) ++ Lib.itoa b) := by
    simp [accI, accB, segB, of_6, itoaB]
  rw [textF_cons _ _ _ _ e2, trimB, e, trim_keep _ _ _ (by decide)]
  simp [of_6]
theorem tx_7 (d a b imm : Int) : trimB 7 d a b imm = (textF (ofF 7).nm (accI (ofF 7) d a b imm)).data.toList := by
  have e : ((nmT 7 ++ ⟨#[32]⟩) ++ ⟨(Lib.join ((partsL d a b imm (flT 7).data.toList).map (·.data.toList)) [44, 32]).toArray⟩ : ByteArray).data.toList = 100 :: ([105, 118, 100, 32] ++ (114 :: Lib.itoa d ++ 44 :: 32 :: (114 :: Lib.itoa a ++ 44 :: 32 :: [114])) ++ Lib.itoa b) := by
    simp [fl_7, nmT, shpTab, partsL, partB, rB, itoaB, Lib.join_cons, Lib.joinTail]
  have e2 : (accI (ofF 7) d a b imm).data.toList = 44 :: (32 :: (114 :: Lib.itoa d ++ 44 :: 32 :: (114 :: Lib.itoa a ++ 44 :: 32 :: [114])) ++ Lib.itoa b) := by
    simp [accI, accB, segB, of_7, itoaB]
  rw [textF_cons _ _ _ _ e2, trimB, e, trim_keep _ _ _ (by decide)]
  simp [of_7]
theorem tx_8 (d a b imm : Int) : trimB 8 d a b imm = (textF (ofF 8).nm (accI (ofF 8) d a b imm)).data.toList := by
  have e : ((nmT 8 ++ ⟨#[32]⟩) ++ ⟨(Lib.join ((partsL d a b imm (flT 8).data.toList).map (·.data.toList)) [44, 32]).toArray⟩ : ByteArray).data.toList = 99 :: ([109, 112, 100, 32] ++ (114 :: Lib.itoa a ++ 44 :: 32 :: [114]) ++ Lib.itoa b) := by
    simp [fl_8, nmT, shpTab, partsL, partB, rB, itoaB, Lib.join_cons, Lib.joinTail]
  have e2 : (accI (ofF 8) d a b imm).data.toList = 44 :: (32 :: (114 :: Lib.itoa a ++ 44 :: 32 :: [114]) ++ Lib.itoa b) := by
    simp [accI, accB, segB, of_8, itoaB]
  rw [textF_cons _ _ _ _ e2, trimB, e, trim_keep _ _ _ (by decide)]
  simp [of_8]
theorem tx_9 (d a b imm : Int) : trimB 9 d a b imm = (textF (ofF 9).nm (accI (ofF 9) d a b imm)).data.toList := by
  have e : ((nmT 9 ++ ⟨#[32]⟩) ++ ⟨(Lib.join ((partsL d a b imm (flT 9).data.toList).map (·.data.toList)) [44, 32]).toArray⟩ : ByteArray).data.toList = 99 :: ([109, 112, 100, 105, 32] ++ (114 :: Lib.itoa a ++ 44 :: 32 :: []) ++ Lib.itoa imm) := by
    simp [fl_9, nmT, shpTab, partsL, partB, rB, itoaB, Lib.join_cons, Lib.joinTail]
  have e2 : (accI (ofF 9) d a b imm).data.toList = 44 :: (32 :: (114 :: Lib.itoa a ++ 44 :: 32 :: []) ++ Lib.itoa imm) := by
    simp [accI, accB, segB, of_9, itoaB]
  rw [textF_cons _ _ _ _ e2, trimB, e, trim_keep _ _ _ (by decide)]
  simp [of_9]
theorem tx_11 (d a b imm : Int) : trimB 11 d a b imm = (textF (ofF 11).nm (accI (ofF 11) d a b imm)).data.toList := by
  have e : ((nmT 11 ++ ⟨#[32]⟩) ++ ⟨(Lib.join ((partsL d a b imm (flT 11).data.toList).map (·.data.toList)) [44, 32]).toArray⟩ : ByteArray).data.toList = 98 :: ([32] ++ [] ++ Lib.itoa imm) := by
    simp [fl_11, nmT, shpTab, partsL, partB, rB, itoaB, Lib.join_cons, Lib.joinTail]
  have e2 : (accI (ofF 11) d a b imm).data.toList = 44 :: (32 :: [] ++ Lib.itoa imm) := by
    simp [accI, accB, segB, of_11, itoaB]
  rw [textF_cons _ _ _ _ e2, trimB, e, trim_keep _ _ _ (by decide)]
  simp [of_11]
theorem tx_12 (d a b imm : Int) : trimB 12 d a b imm = (textF (ofF 12).nm (accI (ofF 12) d a b imm)).data.toList := by
  have e : ((nmT 12 ++ ⟨#[32]⟩) ++ ⟨(Lib.join ((partsL d a b imm (flT 12).data.toList).map (·.data.toList)) [44, 32]).toArray⟩ : ByteArray).data.toList = 98 :: ([108, 32] ++ [] ++ Lib.itoa imm) := by
    simp [fl_12, nmT, shpTab, partsL, partB, rB, itoaB, Lib.join_cons, Lib.joinTail]
  have e2 : (accI (ofF 12) d a b imm).data.toList = 44 :: (32 :: [] ++ Lib.itoa imm) := by
    simp [accI, accB, segB, of_12, itoaB]
  rw [textF_cons _ _ _ _ e2, trimB, e, trim_keep _ _ _ (by decide)]
  simp [of_12]
theorem tx_13 (d a b imm : Int) : trimB 13 d a b imm = (textF (ofF 13).nm (accI (ofF 13) d a b imm)).data.toList := by
  rw [textF_nil _ _ (by simp [accI, accB, segB, of_13])]
  rfl
theorem tx_14 (d a b imm : Int) : trimB 14 d a b imm = (textF (ofF 14).nm (accI (ofF 14) d a b imm)).data.toList := by
  have e : ((nmT 14 ++ ⟨#[32]⟩) ++ ⟨(Lib.join ((partsL d a b imm (flT 14).data.toList).map (·.data.toList)) [44, 32]).toArray⟩ : ByteArray).data.toList = 109 :: ([102, 108, 114, 32] ++ [114] ++ Lib.itoa d) := by
    simp [fl_14, nmT, shpTab, partsL, partB, rB, itoaB, Lib.join_cons, Lib.joinTail]
  have e2 : (accI (ofF 14) d a b imm).data.toList = 44 :: (32 :: [114] ++ Lib.itoa d) := by
    simp [accI, accB, segB, of_14, itoaB]
  rw [textF_cons _ _ _ _ e2, trimB, e, trim_keep _ _ _ (by decide)]
  simp [of_14]
theorem tx_15 (d a b imm : Int) : trimB 15 d a b imm = (textF (ofF 15).nm (accI (ofF 15) d a b imm)).data.toList := by
  have e : ((nmT 15 ++ ⟨#[32]⟩) ++ ⟨(Lib.join ((partsL d a b imm (flT 15).data.toList).map (·.data.toList)) [44, 32]).toArray⟩ : ByteArray).data.toList = 109 :: ([116, 108, 114, 32] ++ [114] ++ Lib.itoa d) := by
    simp [fl_15, nmT, shpTab, partsL, partB, rB, itoaB, Lib.join_cons, Lib.joinTail]
  have e2 : (accI (ofF 15) d a b imm).data.toList = 44 :: (32 :: [114] ++ Lib.itoa d) := by
    simp [accI, accB, segB, of_15, itoaB]
  rw [textF_cons _ _ _ _ e2, trimB, e, trim_keep _ _ _ (by decide)]
  simp [of_15]
theorem tx_16 (d a b imm : Int) : trimB 16 d a b imm = (textF (ofF 16).nm (accI (ofF 16) d a b imm)).data.toList := by
  have e : ((nmT 16 ++ ⟨#[32]⟩) ++ ⟨(Lib.join ((partsL d a b imm (flT 16).data.toList).map (·.data.toList)) [44, 32]).toArray⟩ : ByteArray).data.toList = 108 :: ([100, 97, 114, 120, 32] ++ (114 :: Lib.itoa d ++ 44 :: 32 :: (114 :: Lib.itoa a ++ 44 :: 32 :: [114])) ++ Lib.itoa b) := by
    simp [fl_16, nmT, shpTab, partsL, partB, rB, itoaB, Lib.join_cons, Lib.joinTail]
  have e2 : (accI (ofF 16) d a b imm).data.toList = 44 :: (32 :: (114 :: Lib.itoa d ++ 44 :: 32 :: (114 :: Lib.itoa a ++ 44 :: 32 :: [114])) ++ Lib.itoa b) := by
    simp [accI, accB, segB, of_16, itoaB]
  rw [textF_cons _ _ _ _ e2, trimB, e, trim_keep _ _ _ (by decide)]
  simp [of_16]
theorem tx_17 (d a b imm : Int) : trimB 17 d a b imm = (textF (ofF 17).nm (accI (ofF 17) d a b imm)).data.toList := by
  have e : ((nmT 17 ++ ⟨#[32]⟩) ++ ⟨(Lib.join ((partsL d a b imm (flT 17).data.toList).map (·.data.toList)) [44, 32]).toArray⟩ : ByteArray).data.toList = 115 :: ([116, 100, 99, 120, 46, 32] ++ (114 :: Lib.itoa d ++ 44 :: 32 :: (114 :: Lib.itoa a ++ 44 :: 32 :: [114])) ++ Lib.itoa b) := by
    simp [fl_17, nmT, shpTab, partsL, partB, rB, itoaB, Lib.join_cons, Lib.joinTail]
  have e2 : (accI (ofF 17) d a b imm).data.toList = 44 :: (32 :: (114 :: Lib.itoa d ++ 44 :: 32 :: (114 :: Lib.itoa a ++ 44 :: 32 :: [114])) ++ Lib.itoa b) := by
    simp [accI, accB, segB, of_17, itoaB]
  rw [textF_cons _ _ _ _ e2, trimB, e, trim_keep _ _ _ (by decide)]
  simp [of_17]
theorem tx_18 (d a b imm : Int) : trimB 18 d a b imm = (textF (ofF 18).nm (accI (ofF 18) d a b imm)).data.toList := by
  rw [textF_nil _ _ (by simp [accI, accB, segB, of_18])]
  rfl
theorem tx_19 (d a b imm : Int) : trimB 19 d a b imm = (textF (ofF 19).nm (accI (ofF 19) d a b imm)).data.toList := by
  rw [textF_nil _ _ (by simp [accI, accB, segB, of_19])]
  rfl
theorem tx_20 (d a b imm : Int) : trimB 20 d a b imm = (textF (ofF 20).nm (accI (ofF 20) d a b imm)).data.toList := by
  rw [textF_nil _ _ (by simp [accI, accB, segB, of_20])]
  rfl
theorem tx_21 (d a b imm : Int) : trimB 21 d a b imm = (textF (ofF 21).nm (accI (ofF 21) d a b imm)).data.toList := by
  have e : ((nmT 21 ++ ⟨#[32]⟩) ++ ⟨(Lib.join ((partsL d a b imm (flT 21).data.toList).map (·.data.toList)) [44, 32]).toArray⟩ : ByteArray).data.toList = 116 :: ([114, 97, 112, 32] ++ [] ++ Lib.itoa imm) := by
    simp [fl_21, nmT, shpTab, partsL, partB, rB, itoaB, Lib.join_cons, Lib.joinTail]
  have e2 : (accI (ofF 21) d a b imm).data.toList = 44 :: (32 :: [] ++ Lib.itoa imm) := by
    simp [accI, accB, segB, of_21, itoaB]
  rw [textF_cons _ _ _ _ e2, trimB, e, trim_keep _ _ _ (by decide)]
  simp [of_21]
theorem tx_22 (d a b imm : Int) : trimB 22 d a b imm = (textF (ofF 22).nm (accI (ofF 22) d a b imm)).data.toList := by
  have e : ((nmT 22 ++ ⟨#[32]⟩) ++ ⟨(Lib.join ((partsL d a b imm (flT 22).data.toList).map (·.data.toList)) [44, 32]).toArray⟩ : ByteArray).data.toList = 111 :: ([117, 116, 32] ++ [114] ++ Lib.itoa d) := by
    simp [fl_22, nmT, shpTab, partsL, partB, rB, itoaB, Lib.join_cons, Lib.joinTail]
  have e2 : (accI (ofF 22) d a b imm).data.toList = 44 :: (32 :: [114] ++ Lib.itoa d) := by
    simp [accI, accB, segB, of_22, itoaB]
  rw [textF_cons _ _ _ _ e2, trimB, e, trim_keep _ _ _ (by decide)]
  simp [of_22]
theorem text_eq (op d a b imm : Int) (h : goodR op d a b imm = true) (h10 : ¬ op = 10) : trimB op.toNat d a b imm = (textF (ofF op).nm (accI (ofF op) d a b imm)).data.toList := by
  have hr := goodR_range h
  rcases of_cases hr.1 hr.2 with e | e | e | e | e | e | e | e | e | e | e | e | e | e | e | e | e | e | e | e | e | e <;> subst e
  · exact tx_1 d a b imm
  · exact tx_2 d a b imm
  · exact tx_3 d a b imm
  · exact tx_4 d a b imm
  · exact tx_5 d a b imm
  · exact tx_6 d a b imm
  · exact tx_7 d a b imm
  · exact tx_8 d a b imm
  · exact tx_9 d a b imm
  · exact absurd rfl h10
  · exact tx_11 d a b imm
  · exact tx_12 d a b imm
  · exact tx_13 d a b imm
  · exact tx_14 d a b imm
  · exact tx_15 d a b imm
  · exact tx_16 d a b imm
  · exact tx_17 d a b imm
  · exact tx_18 d a b imm
  · exact tx_19 d a b imm
  · exact tx_20 d a b imm
  · exact tx_21 d a b imm
  · exact tx_22 d a b imm
theorem nm_ok (op : Int) (h1 : 1 ≤ op) (h2 : op ≤ 22) : (nmT op.toNat).size ≤ 100 ∧ (∀ x ∈ (nmT op.toNat).data.toList, x.toNat < 128) ∧ (ofF op).nm.size ≤ 100 := by
  have h : (nmT op.toNat).size ≤ 100 ∧ ((nmT op.toNat).data.toList.all fun x => decide (x.toNat < 128)) = true ∧ (ofF op).nm.size ≤ 100 := by
    rcases of_cases h1 h2 with e | e | e | e | e | e | e | e | e | e | e | e | e | e | e | e | e | e | e | e | e | e <;> subst e <;> decide
  exact ⟨h.1, fun x hx => by simpa using List.all_eq_true.1 h.2.1 x hx, h.2.2⟩
end Go.Proofs.YtpbffmkdchiajaaDoor

/-
  The plain law of package isa, fifth part: two instructions that can be have one text just if they are the same.
-/
import Derived.Test.YtpbffmkdchiajaaDoorIsaLaw1
namespace Go.Proofs.YtpbffmkdchiajaaDoor
open Go.RowKit
/-! ### numerals -/
theorem digit_val (n : Nat) (h : n < 10) : (UInt8.ofNat (48 + n)).toNat = 48 + n := by
  have : ∀ n : Nat, n < 10 → (UInt8.ofNat (48 + n)).toNat = 48 + n := by decide
  exact this n h
theorem digits_range (u : Nat) : ∀ c ∈ Lib.decDigits u, 48 ≤ c.toNat ∧ c.toNat ≤ 57 := by
  induction u using Nat.strongRecOn with
  | ind u ih =>
    intro c hc
    rw [Lib.decDigits] at hc
    split at hc
    · rename_i h
      rw [List.mem_singleton.1 hc, digit_val u h]
      omega
    · rcases List.mem_append.1 hc with hc | hc
      · exact ih (u / 10) (by omega) c hc
      · rw [List.mem_singleton.1 hc, digit_val (u % 10) (by omega)]
        omega
def dval (l : List UInt8) : Nat := l.foldl (fun n c => n * 10 + (c.toNat - 48)) 0
theorem dval_digits (u : Nat) : dval (Lib.decDigits u) = u := by
  induction u using Nat.strongRecOn with
  | ind u ih =>
    rw [Lib.decDigits]
    split
    · rename_i h
      show 0 * 10 + ((UInt8.ofNat (48 + u)).toNat - 48) = u
      rw [digit_val u h]
      omega
    · rename_i h
      have e := ih (u / 10) (by omega)
      unfold dval at e ⊢
      rw [List.foldl_append, e]
      simp only [List.foldl_cons, List.foldl_nil]
      rw [digit_val (u % 10) (by omega)]
      omega
theorem digits_inj {u v : Nat} (h : Lib.decDigits u = Lib.decDigits v) : u = v := by
  rw [← dval_digits u, h, dval_digits]
theorem itoa_no (n : Int) : ∀ c ∈ Lib.itoa n, c ≠ 44 ∧ c ≠ 32 := by
  have key : ∀ u c, c ∈ Lib.decDigits u → c ≠ 44 ∧ c ≠ 32 := by
    intro u c hc
    have := digits_range u c hc
    constructor
    · rintro rfl; revert this; decide
    · rintro rfl; revert this; decide
  intro c hc
  unfold Lib.itoa at hc
  split at hc
  · rcases List.mem_cons.1 hc with rfl | hc
    · exact ⟨by decide, by decide⟩
    · exact key _ _ hc
  · exact key _ _ hc
theorem digits_head (u : Nat) (r : List UInt8) : Lib.decDigits u ≠ 45 :: r := by
  intro h
  have := digits_range u 45 (by rw [h]; simp)
  revert this
  decide
theorem itoa_inj {x y : Int} (h : Lib.itoa x = Lib.itoa y) : x = y := by
  unfold Lib.itoa at h
  split at h <;> split at h
  · simp only [List.cons.injEq, true_and] at h
    have := digits_inj h
    omega
  · exact absurd h.symm (digits_head _ _)
  · exact absurd h (digits_head _ _)
  · have := digits_inj h
    omega
/-! ### cutting -/
/-- The rest is empty or opens with c. -/
def At0 (c : UInt8) (r : List UInt8) : Prop := r = [] ∨ ∃ s, r = c :: s
theorem cut (c : UInt8) : ∀ (x y r s : List UInt8), (∀ b ∈ x, b ≠ c) → (∀ b ∈ y, b ≠ c) → At0 c r → At0 c s → x ++ r = y ++ s → x = y ∧ r = s
  | [], [], r, s, _, _, _, _, h => ⟨rfl, h⟩
  | [], b :: y, r, s, _, hy, hr, _, h => by
    rcases hr with rfl | ⟨t, rfl⟩
    · simp at h
    · simp only [List.nil_append, List.cons_append, List.cons.injEq] at h
      exact absurd h.1.symm (hy b (by simp))
  | a :: x, [], r, s, hx, _, _, hs, h => by
    rcases hs with rfl | ⟨t, rfl⟩
    · simp at h
    · simp only [List.nil_append, List.cons_append, List.cons.injEq] at h
      exact absurd h.1 (hx a (by simp))
  | a :: x, b :: y, r, s, hx, hy, hr, hs, h => by
    simp only [List.cons_append, List.cons.injEq] at h
    obtain ⟨rfl, h⟩ := h
    obtain ⟨rfl, e⟩ := cut c x y r s (fun b hb => hx b (by simp [hb])) (fun b hb => hy b (by simp [hb])) hr hs h
    exact ⟨rfl, e⟩
def segL (f : Bool) (n : Int) : List UInt8 := if f then 44 :: 32 :: 114 :: Lib.itoa n else []
def immL (f : Bool) (n : Int) : List UInt8 := if f then 44 :: 32 :: Lib.itoa n else []
theorem segL_at (f : Bool) (n : Int) (r : List UInt8) (h : At0 44 r) : At0 44 (segL f n ++ r) := by
  cases f
  · exact h
  · exact Or.inr ⟨_, rfl⟩
theorem immL_at (f : Bool) (n : Int) : At0 44 (immL f n) := by
  cases f
  · exact Or.inl rfl
  · exact Or.inr ⟨_, rfl⟩
theorem seg_peel (f : Bool) (x y : Int) (r s : List UInt8) (hr : At0 44 r) (hs : At0 44 s) (h : segL f x ++ r = segL f y ++ s) : (f = true → x = y) ∧ r = s := by
  cases f
  · exact ⟨by simp, h⟩
  · simp only [segL, if_true, List.cons_append, List.cons.injEq, true_and] at h
    obtain ⟨e, h⟩ := cut 44 _ _ r s (fun b hb => (itoa_no x b hb).1) (fun b hb => (itoa_no y b hb).1) hr hs h
    exact ⟨fun _ => itoa_inj e, h⟩
theorem imm_peel (f : Bool) (x y : Int) (h : immL f x = immL f y) : f = true → x = y := by
  cases f
  · simp
  · simp only [immL, if_true, List.cons.injEq, true_and] at h
    exact fun _ => itoa_inj h
/-! ### the text as a list -/
def accL (h : HasF) (d a b imm : Int) : List UInt8 := segL h.d d ++ (segL h.a a ++ (segL h.b b ++ immL (decide (0 < h.i)) imm))
theorem accL_at (h : HasF) (d a b imm : Int) : At0 44 (accL h d a b imm) := segL_at _ _ _ (segL_at _ _ _ (segL_at _ _ _ (immL_at _ _)))
theorem segB_list (f : Bool) (n : Int) : (segB f n).data.toList = segL f n := by
  cases f
  · rfl
  · simp [segB, segL, itoaB]
theorem accI_list (h : HasF) (d a b imm : Int) : (accI h d a b imm).data.toList = accL h d a b imm := by
  unfold accI accL immL
  split
  · rename_i hi
    rw [decide_eq_true hi]
    simp [accB, segB_list, itoaB]
  · rename_i hi
    rw [decide_eq_false hi]
    simp [accB, segB_list]
theorem textF_list (nm x : ByteArray) : (textF nm x).data.toList = nm.data.toList ++ x.data.toList.drop 1 := by
  cases h : x.data.toList with
  | nil => rw [textF_nil nm x h]; simp
  | cons c r => rw [textF_cons nm x c r h]; rfl
def nmL (op d a : Int) : List UInt8 := if op = 10 then (condB d a).data.toList else (ofF op).nm.data.toList
def tlL (op d a b imm : Int) : List UInt8 := if op = 10 then 32 :: Lib.itoa imm else (accL (ofF op) d a b imm).drop 1
theorem txtR_list (op d a b imm : Int) (hg : goodR op d a b imm = true) : (txtR op d a b imm).data.toList = nmL op d a ++ tlL op d a b imm := by
  unfold txtR nmL tlL
  rw [hg, if_pos rfl]
  by_cases h : op = 10
  · rw [if_pos h, if_pos h, if_pos h]
    simp [itoaB]
  · rw [if_neg h, if_neg h, if_neg h, textF_list, accI_list]
/-- The words and what they tell. -/
def words : List (Int × Int × Int) := [(1, 0, 0), (2, 0, 0), (3, 0, 0), (4, 0, 0), (5, 0, 0), (6, 0, 0), (7, 0, 0), (8, 0, 0), (9, 0, 0), (10, 4, 0), (10, 4, 1), (10, 4, 2), (10, 12, 0), (10, 12, 1), (10, 12, 2), (11, 0, 0), (12, 0, 0), (13, 0, 0), (14, 0, 0), (15, 0, 0), (16, 0, 0), (17, 0, 0), (18, 0, 0), (19, 0, 0), (20, 0, 0), (21, 0, 0), (22, 0, 0)]
theorem words_inj : ∀ x ∈ words, ∀ y ∈ words, nmL x.1 x.2.1 x.2.2 = nmL y.1 y.2.1 y.2.2 → x = y := by decide +kernel
theorem words_no : ∀ x ∈ words, ∀ b ∈ nmL x.1 x.2.1 x.2.2, b ≠ 32 := by decide +kernel
theorem words_ne : ∀ x ∈ words, nmL x.1 x.2.1 x.2.2 ≠ [] := by decide +kernel
theorem word_mem (op d a b imm : Int) (hg : goodR op d a b imm = true) : (op, (if op = 10 then d else 0), (if op = 10 then a else 0)) ∈ words := by
  have hr := goodR_range hg
  by_cases h : op = 10
  · subst h
    have hb := bnd_10 d a b imm hg
    rw [if_pos rfl, if_pos rfl]
    have ha : a = 0 ∨ a = 1 ∨ a = 2 := by omega
    rcases hb.2.2.2.2.1 with rfl | rfl <;> rcases ha with rfl | rfl | rfl <;> decide
  · rw [if_neg h, if_neg h]
    have h1 := hr.1
    have h2 := hr.2
    rcases of_cases h1 h2 with e | e | e | e | e | e | e | e | e | e | e | e | e | e | e | e | e | e | e | e | e | e <;> subst e <;> first | decide | exact absurd rfl h
theorem nmL_word (op d a : Int) : nmL op d a = nmL op (if op = 10 then d else 0) (if op = 10 then a else 0) := by
  by_cases h : op = 10
  · rw [if_pos h, if_pos h]
  · rw [if_neg h, if_neg h]; unfold nmL; rw [if_neg h, if_neg h]
theorem tlL_at (op d a b imm : Int) : At0 32 (tlL op d a b imm) := by
  unfold tlL
  split
  · exact Or.inr ⟨_, rfl⟩
  · unfold accL
    cases hd : (ofF op).d <;> cases ha : (ofF op).a <;> cases hb : (ofF op).b <;> cases hi : decide (0 < (ofF op).i) <;> simp [segL, immL, At0]
theorem numF_false {n : Int} (h : numF false n = true) : n = 0 := by simpa [numF] using h
theorem numF_eq {f : Bool} {x y : Int} (hx : numF f x = true) (hy : numF f y = true) (h : f = true → x = y) : x = y := by
  cases f
  · rw [numF_false hx, numF_false hy]
  · exact h rfl
theorem txt_inj (op d a b imm op' d' a' b' imm' : Int) (hg : goodR op d a b imm = true) (hg' : goodR op' d' a' b' imm' = true)
    (h : txtR op d a b imm = txtR op' d' a' b' imm') : op = op' ∧ d = d' ∧ a = a' ∧ b = b' ∧ imm = imm' := by
  have h := congrArg (·.data.toList) h
  simp only [txtR_list _ _ _ _ _ hg, txtR_list _ _ _ _ _ hg'] at h
  have m := word_mem _ _ _ _ _ hg
  have m' := word_mem _ _ _ _ _ hg'
  rw [nmL_word op, nmL_word op'] at h
  obtain ⟨e, ht⟩ := cut 32 _ _ _ _ (words_no _ m) (words_no _ m') (tlL_at _ _ _ _ _) (tlL_at _ _ _ _ _) h
  have e := words_inj _ m _ m' e
  simp only [Prod.mk.injEq] at e
  obtain ⟨rfl, e1, e2⟩ := e
  by_cases h10 : op = 10
  · subst h10
    rw [if_pos rfl, if_pos rfl] at e1 e2
    have hb := bnd_10 _ _ _ _ hg
    have hb' := bnd_10 _ _ _ _ hg'
    simp only [tlL, if_true, List.cons.injEq, true_and] at ht
    exact ⟨rfl, e1, e2, hb.2.2.1.trans hb'.2.2.1.symm, itoa_inj ht⟩
  · unfold tlL at ht
    rw [if_neg h10, if_neg h10] at ht
    have hL : accL (ofF op) d a b imm = accL (ofF op) d' a' b' imm' := by
      unfold accL at ht ⊢
      cases hd : (ofF op).d <;> cases ha : (ofF op).a <;> cases hb : (ofF op).b <;> cases hi : decide (0 < (ofF op).i) <;> simp [segL, immL, hd, ha, hb, hi] at ht ⊢ <;> exact ht
    unfold accL at hL
    obtain ⟨p1, hL⟩ := seg_peel _ _ _ _ _ (segL_at _ _ _ (segL_at _ _ _ (immL_at _ _))) (segL_at _ _ _ (segL_at _ _ _ (immL_at _ _))) hL
    obtain ⟨p2, hL⟩ := seg_peel _ _ _ _ _ (segL_at _ _ _ (immL_at _ _)) (segL_at _ _ _ (immL_at _ _)) hL
    obtain ⟨p3, hL⟩ := seg_peel _ _ _ _ _ (immL_at _ _) (immL_at _ _) hL
    have p4 := imm_peel _ _ _ hL
    unfold goodR at hg hg'
    simp only [Bool.and_eq_true] at hg hg'
    obtain ⟨⟨⟨⟨⟨_, g1⟩, g2⟩, g3⟩, _⟩, g4⟩ := hg
    obtain ⟨⟨⟨⟨⟨_, k1⟩, k2⟩, k3⟩, _⟩, k4⟩ := hg'
    refine ⟨rfl, numF_eq g1 k1 p1, numF_eq g2 k2 p2, numF_eq g3 k3 p3, ?_⟩
    have hi := ofF_i op
    by_cases hz : (ofF op).i = 0
    · unfold immOk at g4 k4
      rw [if_pos hz] at g4 k4
      have := of_decide_eq_true g4
      have := of_decide_eq_true k4
      omega
    · exact p4 (decide_eq_true (by omega))
theorem txt_none (op d a b imm : Int) : (txtR op d a b imm).toList.isEmpty = !goodR op d a b imm := by
  cases hg : goodR op d a b imm
  · unfold txtR; rw [hg, if_neg (by decide), ByteArray.toList_eq]; rfl
  · have := txtR_list _ _ _ _ _ hg
    rw [ByteArray.toList_eq, this, nmL_word]
    have := words_ne _ (word_mem _ _ _ _ _ hg)
    cases h : nmL op (if op = 10 then d else 0) (if op = 10 then a else 0) with
    | nil => exact absurd h this
    | cons c r => rfl
end Go.Proofs.YtpbffmkdchiajaaDoor

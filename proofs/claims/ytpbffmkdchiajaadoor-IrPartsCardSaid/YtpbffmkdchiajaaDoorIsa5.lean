/-
  The walks of package isa, fifth part: Decode.
-/
import Derived.Test.YtpbffmkdchiajaaDoorIsa3
import Derived.Test.YtpbffmkdchiajaaDoorIsa4
namespace Go.Proofs.YtpbffmkdchiajaaDoor
open Go.RowKit Go.Lib
/-- the fields that 'read' takes out of a word, for an operation -/
def rd4 (fl : Nat → ByteArray) (x : Int) (k : Nat) : R4 := rL x (fl k).data.toList
def decHit (fl : Nat → ByteArray) (wt : Nat → Int) (x : Int) (k : Nat) : Bool :=
  goodI fl k (rd4 fl x k).d (rd4 fl x k).a (rd4 fl x k).b (rd4 fl x k).i && decide (encI fl wt k (rd4 fl x k).d (rd4 fl x k).a (rd4 fl x k).b (rd4 fl x k).i = x)
def decF (fl : Nat → ByteArray) (wt : Nat → Int) (x : Int) : Option Nat := (List.range' 1 22).find? (decHit fl wt x)
def decCells (fl : Nat → ByteArray) (wt : Nat → Int) (x : Int) : Array Value :=
  match decF fl wt x with
  | some k => #[.int .i64 k, .int .i64 (rd4 fl x k).d, .int .i64 (rd4 fl x k).a, .int .i64 (rd4 fl x k).b, .int .i64 (rd4 fl x k).i]
  | none => #[.int .i64 0, .int .i64 0, .int .i64 0, .int .i64 0, .int .i64 0]
def decErr (fl : Nat → ByteArray) (wt : Nat → Int) (x : Int) : Int := if (decF fl wt x).isSome then 0 else 4
theorem find_range' (p : Nat → Bool) : ∀ (n k m : Nat), m ∈ List.range' k n → (∀ j, k ≤ j → j < m → p j = false) → p m = true → (List.range' k n).find? p = some m
  | 0, k, m, h, _, _ => by simp at h
  | n + 1, k, m, h, hl, hm => by
    rw [List.range'_succ, List.find?_cons]
    by_cases e : k = m
    · subst e; rw [hm]
    · have h' : m ∈ List.range' (k + 1) n := by simp at h ⊢; omega
      rw [hl k (Nat.le_refl _) (by simp at h'; omega)]
      exact find_range' p n (k + 1) m h' (fun j h1 h2 => hl j (by omega) h2) hm
structure DecRel (fl : Nat → ByteArray) (wt : Nat → Int) (x : Int) (w : World) (k : Nat) (wr : World) : Prop where
  below : Below w.heap.size w wr
  lt : w.heap.size < wr.heap.size
  res : Blk wr w.heap.size #[.int .i64 0, .int .i64 0, .int .i64 0, .int .i64 0, .int .i64 0] 23
  no : ∀ j, 1 ≤ j → j < k → decHit fl wt x j = false
/-- What is known behind 'read' and 'Encode': the box of the instruction, and the result's block. -/
theorem decBox {wr w1 w2 : World} {n : Nat} {a0 a1 a2 a3 a4 : Int} (hR : Blk wr n #[.int .i64 0, .int .i64 0, .int .i64 0, .int .i64 0, .int .i64 0] 23) (hb1 : Below wr.heap.size wr w1)
    (hb2 : Below (w1.alloc (.cells #[.int .i64 a0, .int .i64 a1, .int .i64 a2, .int .i64 a3, .int .i64 a4] 23)).heap.size (w1.alloc (.cells #[.int .i64 a0, .int .i64 a1, .int .i64 a2, .int .i64 a3, .int .i64 a4] 23)) w2) (hn : n < wr.heap.size) :
    Below wr.heap.size wr w2 ∧ w2.cell? ⟨w1.heap.size, 0, none⟩ = some (.int .i64 a0) ∧ w2.cell? ⟨w1.heap.size, 1, none⟩ = some (.int .i64 a1) ∧ w2.cell? ⟨w1.heap.size, 2, none⟩ = some (.int .i64 a2) ∧
      w2.cell? ⟨w1.heap.size, 3, none⟩ = some (.int .i64 a3) ∧ w2.cell? ⟨w1.heap.size, 4, none⟩ = some (.int .i64 a4) ∧ w2.frozen? ⟨n, 0, none⟩ = false ∧ w2.frozen? ⟨n, 1, none⟩ = false ∧ w2.frozen? ⟨n, 2, none⟩ = false ∧ w2.frozen? ⟨n, 3, none⟩ = false ∧ w2.frozen? ⟨n, 4, none⟩ = false ∧
      w2.cell? ⟨n, 0, none⟩ = some (.int .i64 0) ∧ w2.cell? ⟨n, 1, none⟩ = some (.int .i64 0) ∧ w2.cell? ⟨n, 2, none⟩ = some (.int .i64 0) ∧ w2.cell? ⟨n, 3, none⟩ = some (.int .i64 0) ∧ w2.cell? ⟨n, 4, none⟩ = some (.int .i64 0) ∧ Hid (Blk w2 n #[.int .i64 0, .int .i64 0, .int .i64 0, .int .i64 0, .int .i64 0] 23) := by
  have hz1 := hb1.size
  have bb : Below wr.heap.size wr w2 := (hb1.alloc hz1 _).trans (hb2.mono (by simp; omega))
  have hB := (Blk.new w1 #[.int .i64 a0, .int .i64 a1, .int .i64 a2, .int .i64 a3, .int .i64 a4] 23).below hb2 (by simp)
  have hr := hR.below bb hn
  exact ⟨bb, hB.cell 0, hB.cell 1, hB.cell 2, hB.cell 3, hB.cell 4, hr.free 0, hr.free 1, hr.free 2, hr.free 3, hr.free 4, hr.cell 0, hr.cell 1, hr.cell 2, hr.cell 3, hr.cell 4, hr⟩
set_option maxHeartbeats 2000000 in
theorem dec_any {nm fl : Nat → ByteArray} {wt : Nat → Int} (F : FlOk fl) (x : Int) (h0 : 0 ≤ x) (h1 : x < 4294967296) (w : World) (H : Shp nm fl wt w) :
    Calls Tryd.prog 16 #[.int .u32 x] w fun e w' => e = .returned (.tuple #[.agg (decCells fl wt x), .int .i64 (decErr fl wt x)]) ∧ Below w.heap.size w w' := by
  have HS := Lib.hid H
  go_enter Tryd.func16, Tryd.ntmps16
  go_wp2
  go_loopw [4] (fun i wr => ∃ k : Nat, 1 ≤ k ∧ k ≤ 23 ∧ i = .int .i64 k ∧ DecRel fl wt x w k wr) (fun i _ => 23 - (intOf i).toNat)
  case atStart =>
    refine ⟨1, by omega, by omega, rfl, (Below.refl _ _).alloc (Nat.le_refl _) _, by simp, Blk.new _ _ _, fun j h1 h2 => by omega⟩
  case round =>
    obtain ⟨k, hk1, hk, rfl, hr⟩ := hrel
    obtain ⟨r1, r2, r3, r4⟩ := hr
    have HSr := Lib.hid (HS.out.below r1 HS.out.pos)
    have hR := Lib.hid r3
    have hN := Lib.hid r4
    clear r3 r4
    by_cases hlk : k ≤ 22
    · have hfl : Hid (wr.cell? ⟨0, (k : Int).toNat * 3 + 1, none⟩ = some (.string (fl k))) := HSr.out.flds k hk1 hlk
      have hsz := Lib.hid (F.size k hk1 hlk)
      have hz0 := HSr.out.pos
      have hrd : Hid (∀ x, rL x (fl k).data.toList = rd4 fl x k) := fun _ => rfl
      cases hgd : goodI fl k (rd4 fl x k).d (rd4 fl x k).a (rd4 fl x k).b (rd4 fl x k).i
      · have Hgd := Lib.hid hgd
        clear hgd
        have hen : Hid (∀ w, Shp nm fl wt w → Calls Tryd.prog 11 #[.agg #[.int .i64 (k : Int), .int .i64 (rd4 fl x k).d, .int .i64 (rd4 fl x k).a, .int .i64 (rd4 fl x k).b, .int .i64 (rd4 fl x k).i]] w fun e w' => e = .returned (.tuple #[.int .u32 0, .int .i64 1]) ∧ Below w.heap.size w w') :=
          fun w H => enc_bad F k (rd4 fl x k).d (rd4 fl x k).a (rd4 fl x k).b (rd4 fl x k).i w H Hgd.out
        go_wp2_with (first | (go_at_call 59; refine (read_any _ x (fl k) _ (by omega) (by omega) hsz.out h0 h1 hfl.out hz0).mono ?_; rw [hrd.out]; rintro e w1 ⟨rfl, hb1⟩) | (go_at_call 11; refine (hen.out _ ?_).mono ?_; exact (HSr.out.below hb1 hz0).below ((Below.refl _ _).alloc (Nat.le_refl _) _) (Nat.lt_of_lt_of_le hz0 hb1.size); rintro e w2 ⟨rfl, hb2⟩))
        have hz1 := hb1.size
        have hz2 := hb2.size
        simp at hz2
        have bb : Below wr.heap.size wr w2 := (hb1.alloc hz1 _).trans (hb2.mono (by simp; omega))
        refine ⟨⟨k + 1, by omega, by omega, by go_num, ⟨below_then r1 (by omega) bb, by omega, hR.out.below bb r2, ?_⟩⟩, by simp [intOf]; omega⟩
        intro j j1 j2
        by_cases e : j = k
        · subst e
          unfold decHit
          rw [Hgd.out]; rfl
        · exact hN.out j j1 (by omega)
      · have Hgd := Lib.hid hgd
        clear hgd
        have hen : Hid (∀ w, Shp nm fl wt w → Calls Tryd.prog 11 #[.agg #[.int .i64 (k : Int), .int .i64 (rd4 fl x k).d, .int .i64 (rd4 fl x k).a, .int .i64 (rd4 fl x k).b, .int .i64 (rd4 fl x k).i]] w fun e w' => e = .returned (.tuple #[.int .u32 (encI fl wt k (rd4 fl x k).d (rd4 fl x k).a (rd4 fl x k).b (rd4 fl x k).i), .int .i64 0]) ∧ Below w.heap.size w w') :=
          fun w H => enc_good F k (rd4 fl x k).d (rd4 fl x k).a (rd4 fl x k).b (rd4 fl x k).i w H (by omega) (by omega) Hgd.out
        cases heq : (encI fl wt k (rd4 fl x k).d (rd4 fl x k).a (rd4 fl x k).b (rd4 fl x k).i == x)
        · go_wp2_with (first | (go_at_call 59; refine (read_any _ x (fl k) _ (by omega) (by omega) hsz.out h0 h1 hfl.out hz0).mono ?_; rw [hrd.out]; rintro e w1 ⟨rfl, hb1⟩) | (go_at_call 11; refine (hen.out _ ?_).mono ?_; exact (HSr.out.below hb1 hz0).below ((Below.refl _ _).alloc (Nat.le_refl _) _) (Nat.lt_of_lt_of_le hz0 hb1.size); rintro e w2 ⟨rfl, hb2⟩))
          have hz1 := hb1.size
          have hz2 := hb2.size
          simp at hz2
          have bb : Below wr.heap.size wr w2 := (hb1.alloc hz1 _).trans (hb2.mono (by simp; omega))
          refine ⟨⟨k + 1, by omega, by omega, by go_num, ⟨below_then r1 (by omega) bb, by omega, hR.out.below bb r2, ?_⟩⟩, by simp [intOf]; omega⟩
          intro j j1 j2
          by_cases e : j = k
          · subst e
            unfold decHit
            rw [Hgd.out, decide_eq_false (by simpa using heq)]; rfl
          · exact hN.out j j1 (by omega)
        · have Heq := Lib.hid heq
          go_wp2_with (first | (go_at_call 59; refine (read_any _ x (fl k) _ (by omega) (by omega) hsz.out h0 h1 hfl.out hz0).mono ?_; rw [hrd.out]; rintro e w1 ⟨rfl, hb1⟩) | (go_at_call 11; refine (hen.out _ ?_).mono ?_; exact (HSr.out.below hb1 hz0).below ((Below.refl _ _).alloc (Nat.le_refl _) _) (Nat.lt_of_lt_of_le hz0 hb1.size); rintro e w2 ⟨rfl, hb2⟩; obtain ⟨bb, c0, c1, c2, c3, c4, q0, q1, q2, q3, q4, y0, y1, y2, y3, y4, HR2⟩ := decBox hR.out hb1 hb2 r2))
          have hdk : decF fl wt x = some k := by
            refine find_range' _ 22 1 k (by simp; omega) (fun j j1 j2 => hN.out j j1 j2) ?_
            unfold decHit
            rw [Hgd.out, decide_eq_true (by simpa using Heq.out)]
            rfl
          refine bodyPost_agg2 (b := w.heap.size) Tryd.results16 rfl (((((HR2.out.set 0 _).set 1 _).set 2 _).set 3 _).set 4 _) (fun _ => by kernel_rfl) (fun _ => by kernel_rfl) rfl ⟨?_, ?_⟩
          · unfold decCells decErr
            rw [hdk]
            simp
          · have b1 := below_then r1 (by omega) bb
            exact (((((b1.setCell (Nat.le_refl _) _).setCell (Nat.le_refl _) _).setCell (Nat.le_refl _) _).setCell (Nat.le_refl _) _).setCell (Nat.le_refl _) _)
    · have hke : k = 23 := by omega
      have hdk : decF fl wt x = none := by
        unfold decF
        rw [List.find?_eq_none]
        intro j hj
        have h := hN.out j (by simp at hj; omega) (by simp at hj; omega)
        simp [h]
      have f0 := hR.out.free 0
      have f1 := hR.out.free 1
      have f2 := hR.out.free 2
      have f3 := hR.out.free 3
      have f4 := hR.out.free 4
      have y0 : wr.cell? ⟨w.heap.size, 0, none⟩ = some (.int .i64 0) := hR.out.cell 0
      have y1 : wr.cell? ⟨w.heap.size, 1, none⟩ = some (.int .i64 0) := hR.out.cell 1
      have y2 : wr.cell? ⟨w.heap.size, 2, none⟩ = some (.int .i64 0) := hR.out.cell 2
      have y3 : wr.cell? ⟨w.heap.size, 3, none⟩ = some (.int .i64 0) := hR.out.cell 3
      have y4 : wr.cell? ⟨w.heap.size, 4, none⟩ = some (.int .i64 0) := hR.out.cell 4
      have Hd := Lib.hid hdk
      clear hdk
      go_wp2
      refine bodyPost_agg2 (b := w.heap.size) Tryd.results16 rfl (((((hR.out.set 0 _).set 1 _).set 2 _).set 3 _).set 4 _) (fun _ => by kernel_rfl) (fun _ => by kernel_rfl) rfl ⟨?_, ?_⟩
      · unfold decCells decErr
        rw [Hd.out]
        simp
      · exact (((((r1.setCell (Nat.le_refl _) _).setCell (Nat.le_refl _) _).setCell (Nat.le_refl _) _).setCell (Nat.le_refl _) _).setCell (Nat.le_refl _) _)
end Go.Proofs.YtpbffmkdchiajaaDoor

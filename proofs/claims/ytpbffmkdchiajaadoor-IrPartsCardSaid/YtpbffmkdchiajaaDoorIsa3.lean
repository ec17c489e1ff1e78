/-
  The walks of package isa, third part: Encode.
-/
import Derived.Test.YtpbffmkdchiajaaDoorIsa2
namespace Go.Proofs.YtpbffmkdchiajaaDoor
open Go.RowKit Go.Lib
def encStep (d a b imm : Int) (x : Int) (c : UInt8) : Int := putF x (pFrom c.toNat) (pN c.toNat) (bits .and .u32 (pX c.toNat d a b imm % 4294967296) (maskF (pN c.toNat)))
def encL (d a b imm : Int) (x : Int) (l : List UInt8) : Int := l.foldl (encStep d a b imm) x
theorem pN_ok {f : Nat} : 0 ≤ pFrom f ∧ 0 ≤ pN f ∧ pFrom f + pN f ≤ 32 := by
  unfold pFrom pN
  repeat' split
  all_goals omega
structure EncRel (w W1 : World) (op d a b imm wd : Int) (s : ByteArray) (k : Nat) (x : Value) (wr : World) : Prop where
  below : Below w.heap.size w wr
  prm : Blk wr w.heap.size #[.int .i64 op, .int .i64 d, .int .i64 a, .int .i64 b, .int .i64 imm] 23
  byts : Byts wr W1.heap.size s
  acc : x = .int .u32 (encL d a b imm wd (s.data.toList.take k))
set_option maxHeartbeats 1000000 in
theorem enc_bad {nm fl : Nat → ByteArray} {wt : Nat → Int} (F : FlOk fl) (op d a b imm : Int) (w : World) (H : Shp nm fl wt w) (hg : goodI fl op d a b imm = false) :
    Calls Tryd.prog 11 #[.agg #[.int .i64 op, .int .i64 d, .int .i64 a, .int .i64 b, .int .i64 imm]] w fun e w' => e = .returned (.tuple #[.int .u32 0, .int .i64 1]) ∧ Below w.heap.size w w' := by
  have b0 : Below w.heap.size w (w.alloc (.cells #[.int .i64 op, .int .i64 d, .int .i64 a, .int .i64 b, .int .i64 imm] 23)) := (Below.refl _ w).alloc (Nat.le_refl _) _
  have HS := Lib.hid (H.below b0 H.pos)
  go_enter Tryd.func11, Tryd.ntmps11
  go_wp2_with (go_at_call 12; refine (good_inst F op d a b imm _ HS.out).mono ?_; rintro e w' ⟨rfl, hb⟩)
  go_ret2
  exact ⟨rfl, below_then b0 (by simp) hb⟩
set_option maxHeartbeats 1000000 in
theorem enc_good {nm fl : Nat → ByteArray} {wt : Nat → Int} (F : FlOk fl) (op d a b imm : Int) (w : World) (H : Shp nm fl wt w) (ho : 1 ≤ op) (ho' : op ≤ 22) (hg : goodI fl op d a b imm = true) :
    Calls Tryd.prog 11 #[.agg #[.int .i64 op, .int .i64 d, .int .i64 a, .int .i64 b, .int .i64 imm]] w fun e w' => e = .returned (.tuple #[.int .u32 (encL d a b imm (wt op.toNat) (fl op.toNat).data.toList), .int .i64 0]) ∧ Below w.heap.size w w' := by
  have b0 : Below w.heap.size w (w.alloc (.cells #[.int .i64 op, .int .i64 d, .int .i64 a, .int .i64 b, .int .i64 imm] 23)) := (Below.refl _ w).alloc (Nat.le_refl _) _
  have HS := Lib.hid (H.below b0 H.pos)
  have HB := Lib.hid (Blk.new w #[.int .i64 op, .int .i64 d, .int .i64 a, .int .i64 b, .int .i64 imm] 23)
  have hs := F.size op.toNat (by omega) (by omega)
  have hf := Lib.hid (F.byts op.toNat (by omega) (by omega))
  have hw := H.pos
  obtain ⟨wd, hwd⟩ : ∃ x, x = wt op.toNat := ⟨_, rfl⟩
  obtain ⟨s, hse⟩ : ∃ x, x = fl op.toNat := ⟨_, rfl⟩
  have HF := Lib.hid (H.flds op.toNat (by omega) (by omega))
  have HW := Lib.hid (H.word op.toNat (by omega) (by omega))
  rw [← hse] at hs hf HF
  rw [← hwd] at HW
  rw [← hse, ← hwd]
  clear hse hwd
  have kb := fun W => Lib.run_convert_string_bytes (P := Tryd.prog) W 9 89 5 s Tryd.underlying9 Tryd.underlying89 Tryd.underlying5
  go_enter Tryd.func11, Tryd.ntmps11
  go_wp2_with (go_at_call 12; refine (good_inst F op d a b imm _ HS.out).mono ?_; rintro e w' ⟨rfl, hb⟩; have hB := Lib.hid (below_then b0 (by simp) hb); have hz := hb.size; simp at hz; have hP := Lib.hid (HB.out.below hb (by simp)); have p0 := hP.out.cell 0; simp at p0; have hgf := (hB.out.cell (p := ⟨0, op.toNat * 3 + 1, none⟩) hw).trans HF.out; have hgw := (hB.out.cell (p := ⟨0, op.toNat * 3 + 2, none⟩) hw).trans HW.out; clear hb)
  clear kb
  go_loopw [4, 26] (fun x i wr => ∃ k : Nat, k ≤ s.size ∧ i = .int .i64 k ∧ EncRel w w' op d a b imm wd s k x wr) (fun _ i _ => s.size - (intOf i).toNat)
  case atStart =>
    have hb2 : Below w'.heap.size w' (Lib.bytesWorld w' 5 s) := bytes_below (Below.refl _ _) (Nat.le_refl _) 5 s
    refine ⟨0, Nat.zero_le _, rfl, ?_, ?_, ?_, rfl⟩
    · exact bytes_below hB.out (by omega) 5 s
    · exact hP.out.below hb2 (by omega)
    · exact Byts.new w' s 5
  case round =>
    obtain ⟨k, hk, rfl, hr⟩ := hrel
    obtain ⟨hr1, hr2, hr3, rfl⟩ := hr
    clear hgf hgw hP p0
    by_cases hlk : k < s.size
    · have hb := hr3 k hlk
      have hsn := Lib.hid (take_snoc s.data.toList k (by simpa using hlk))
      have hfc := Lib.hid (hf.out k hlk)
      have hn : k + 1 ≤ s.size := hlk
      generalize hcc : s.data.toList.getD k 0 = c at *
      have Hcc := Lib.hid hcc
      clear hcc
      have hp := Lib.hid (pN_ok (f := c.toNat))
      go_wp2_with (first | (go_at_call 51; refine (part_any _ hfc.out op d a b imm _ _ hr2).mono ?_; rintro e w1 ⟨rfl, n, rfl⟩) | (go_at_call 53; refine (bits_any _ _ _).mono ?_; rintro e w1 ⟨rfl, rfl⟩) | (go_at_call 52; refine (put_any _ _ _ _ _ hp.out.1 hp.out.2.1 hp.out.2.2).mono ?_; rintro e w1 ⟨rfl, m, rfl⟩))
      refine ⟨⟨k + 1, hn, by go_num, ⟨below_drewN hr1 _, hr2.drewN _, hr3, ?_⟩⟩, by simp [intOf]; omega⟩
      rw [hsn.out, encL, encL, List.foldl_append]
      rfl
    · have hke : k = s.size := by omega
      have Hke := Lib.hid hke
      clear hke
      go_wp2
      go_ret2
      refine ⟨?_, hr1⟩
      have hT : s.data.toList.take k = s.data.toList := List.take_of_length_le (by have := Hke.out; simp; omega)
      rw [hT]
      rfl
def encI (fl : Nat → ByteArray) (wt : Nat → Int) (op d a b imm : Int) : Int := encL d a b imm (wt op.toNat) (fl op.toNat).data.toList
theorem enc_any {nm fl : Nat → ByteArray} {wt : Nat → Int} (F : FlOk fl) (op d a b imm : Int) (w : World) (H : Shp nm fl wt w) :
    Calls Tryd.prog 11 #[.agg #[.int .i64 op, .int .i64 d, .int .i64 a, .int .i64 b, .int .i64 imm]] w fun e w' =>
      e = .returned (.tuple #[.int .u32 (if goodI fl op d a b imm then encI fl wt op d a b imm else 0), .int .i64 (if goodI fl op d a b imm then 0 else 1)]) ∧ Below w.heap.size w w' := by
  cases hg : goodI fl op d a b imm
  · exact enc_bad F op d a b imm w H hg
  · have h : 1 ≤ op ∧ op ≤ 22 := by
      unfold goodI at hg
      have := (Bool.and_eq_true _ _ ▸ hg).1
      simpa using this
    exact enc_good F op d a b imm w H h.1 h.2 hg
end Go.Proofs.YtpbffmkdchiajaaDoor
